-- PRINTED by print.py (a twelfth state) out of the translation. Not trusted: Lean checks it.
import Derived.Test.YtacklfnnpiobgaaQ0
import Derived.Test.YtacklfnnpiobgaaQ9
namespace Go.Proofs.Ytacklfnnpiobgaa.Q
open Go.RowKit Go.Proofs.YtacklfnnpiobgaaW.PrintWords Go.Proofs.YtacklfnnpiobgaaW.PrintLast Go.Proofs.YtacklfnnpiobgaaW.PrintMore
attribute [local go_sem] max2_int min2_int max_two min_two max_three min_three max_four min_four   -- for this text's walks alone
set_option linter.unusedVariables false
set_option linter.unusedSimpArgs false

/-! ### compasslaw04_WalkNests: function 8 -/
mutual
def compasslaw04_WalkNests.j0 : Nat → List Int → List Int → Bool → Int → List (S41) → Option (Bool)
  | 0, _, _, _, _, _ => none
  | k + 1, x3, x4, x42, x293000, x293001 => if x42 = true then (some false) else (if 0 ≤ (wrap64 (2 * x293000)) then (if (wrap64 (2 * x293000) : Int).toNat ≤ 281474976710656 then (compasslaw04_WalkNests.l0 k x3 x4 (List.replicate (wrap64 (2 * x293000) : Int).toNat false) (x3.length : Int) 0 x293000 x293001) else (none)) else (none))
def compasslaw04_WalkNests.l0 : Nat → List Int → List Int → List Bool → Int → Int → Int → List (S41) → Option (Bool)
  | 0, _, _, _, _, _, _, _ => none
  | k + 1, x3, x4, x6, x48, x49, x293000, x293001 => if x49 < x48 then (if 0 ≤ x49 then (if x49 < (x3.length : Int) then (if x49 < (x4.length : Int) then ((some (([rd x3 x49, rd x4 x49] : List Int) : List Int)).bind fun y306 => (compasslaw04_WalkNests.l1 k x3 x4 x6 x49 x48 x49 y306 (y306.length : Int) 0 x293000 x293001)) else (none)) else (none)) else (none)) else (compasslaw04_WalkNests.l3 k x3 x4 x293001 (x293001.length : Int) 0)
def compasslaw04_WalkNests.l1 : Nat → List Int → List Int → List Bool → Int → Int → Int → List Int → Int → Int → Int → List (S41) → Option (Bool)
  | 0, _, _, _, _, _, _, _, _, _, _, _ => none
  | k + 1, x3, x4, x6, x7, x48, x49, x60, x61, x62, x293000, x293001 => if x62 < x61 then (if 0 ≤ x62 then (if x62 < (x60.length : Int) then (if (rd x60 x62) < 0 then (some false) else (if (rd x60 x62) ≥ (x6.length : Int) then (some false) else (if 0 ≤ (rd x60 x62) then (if (rd x60 x62) < (x6.length : Int) then (if rdOf false x6 (rd x60 x62) = true then (some false) else (compasslaw04_WalkNests.l1 k x3 x4 (x6.set ((rd x60 x62) : Int).toNat true) x7 x48 x49 x60 x61 (wrap64 (x62 + 1)) x293000 x293001)) else (none)) else (none)))) else (none)) else (none)) else (if 0 ≤ x7 then (if x7 < (x3.length : Int) then (if x7 < (x4.length : Int) then (if (rd x3 x7) ≥ (rd x4 x7) then (some false) else (compasslaw04_WalkNests.l2 k x3 x4 x6 x7 x48 x49 (x3.length : Int) 0 x293000 x293001)) else (none)) else (none)) else (none))
def compasslaw04_WalkNests.l2 : Nat → List Int → List Int → List Bool → Int → Int → Int → Int → Int → Int → List (S41) → Option (Bool)
  | 0, _, _, _, _, _, _, _, _, _, _ => none
  | k + 1, x3, x4, x6, x7, x48, x49, x94, x95, x293000, x293001 => if x95 < x94 then (if 0 ≤ x95 then (if x95 < (x3.length : Int) then (if 0 ≤ x7 then (if x7 < (x3.length : Int) then (if (rd x3 x95) < (rd x3 x7) then (if x95 < (x4.length : Int) then (if (rd x3 x7) < (rd x4 x95) then (if x7 < (x4.length : Int) then (if (rd x4 x7) > (rd x4 x95) then (some false) else (compasslaw04_WalkNests.l2 k x3 x4 x6 x7 x48 x49 x94 (wrap64 (x95 + 1)) x293000 x293001)) else (none)) else (compasslaw04_WalkNests.l2 k x3 x4 x6 x7 x48 x49 x94 (wrap64 (x95 + 1)) x293000 x293001)) else (none)) else (compasslaw04_WalkNests.l2 k x3 x4 x6 x7 x48 x49 x94 (wrap64 (x95 + 1)) x293000 x293001)) else (none)) else (none)) else (none)) else (none)) else (compasslaw04_WalkNests.l0 k x3 x4 x6 x48 (wrap64 (x49 + 1)) x293000 x293001)
def compasslaw04_WalkNests.l3 : Nat → List Int → List Int → List (S41) → Int → Int → Option (Bool)
  | 0, _, _, _, _, _ => none
  | k + 1, x3, x4, x132, x133, x134 => if x134 < x133 then (if 0 ≤ x134 then (if x134 < (x132.length : Int) then (if 0 ≤ ((rd_T41 x132 x134).f0) then (if ((rd_T41 x132 x134).f0) < (x4.length : Int) then (if 0 ≤ ((rd_T41 x132 x134).f1) then (if ((rd_T41 x132 x134).f1) < (x3.length : Int) then (if (rd x4 ((rd_T41 x132 x134).f0)) < (rd x3 ((rd_T41 x132 x134).f1)) then (some false) else (compasslaw04_WalkNests.l3 k x3 x4 x132 x133 (wrap64 (x134 + 1)))) else (none)) else (none)) else (none)) else (none)) else (none)) else (none)) else (some true)
end
def compasslaw04_WalkNests.f (k : Nat) (a0_0 : Int) (l0_1 : List (S41)) : Option (Bool) := (compasslaw04_awake.f k).bind fun t293 => (if t293 = true then ((walk_Visit.f k a0_0 l0_1).bind fun bt294 => (if bt294.2.2 = 0 then (if (bt294.1.length : Int) = a0_0 then (compasslaw04_WalkNests.j0 k bt294.1 bt294.2.1 ((bt294.2.1.length : Int) != a0_0) a0_0 l0_1) else (compasslaw04_WalkNests.j0 k bt294.1 bt294.2.1 true a0_0 l0_1)) else (if (bt294.1.length : Int) = 0 then (some ((bt294.2.1.length : Int) == 0)) else (some false)))) else (some false))
theorem compasslaw04_WalkNests.mono_l : ∀ k, (∀ y0 y1 y2 y3 y4, LeO (compasslaw04_WalkNests.j0 k y0 y1 y2 y3 y4) (compasslaw04_WalkNests.j0 (k + 1) y0 y1 y2 y3 y4)) ∧ (∀ y0 y1 y2 y3 y4 y5 y6, LeO (compasslaw04_WalkNests.l0 k y0 y1 y2 y3 y4 y5 y6) (compasslaw04_WalkNests.l0 (k + 1) y0 y1 y2 y3 y4 y5 y6)) ∧ (∀ y0 y1 y2 y3 y4 y5 y6 y7 y8 y9 y10, LeO (compasslaw04_WalkNests.l1 k y0 y1 y2 y3 y4 y5 y6 y7 y8 y9 y10) (compasslaw04_WalkNests.l1 (k + 1) y0 y1 y2 y3 y4 y5 y6 y7 y8 y9 y10)) ∧ (∀ y0 y1 y2 y3 y4 y5 y6 y7 y8 y9, LeO (compasslaw04_WalkNests.l2 k y0 y1 y2 y3 y4 y5 y6 y7 y8 y9) (compasslaw04_WalkNests.l2 (k + 1) y0 y1 y2 y3 y4 y5 y6 y7 y8 y9)) ∧ (∀ y0 y1 y2 y3 y4, LeO (compasslaw04_WalkNests.l3 k y0 y1 y2 y3 y4) (compasslaw04_WalkNests.l3 (k + 1) y0 y1 y2 y3 y4))
  | 0 => ⟨fun _ _ _ _ _ r h => by simp [compasslaw04_WalkNests.j0] at h, fun _ _ _ _ _ _ _ r h => by simp [compasslaw04_WalkNests.l0] at h, fun _ _ _ _ _ _ _ _ _ _ _ r h => by simp [compasslaw04_WalkNests.l1] at h, fun _ _ _ _ _ _ _ _ _ _ r h => by simp [compasslaw04_WalkNests.l2] at h, fun _ _ _ _ _ r h => by simp [compasslaw04_WalkNests.l3] at h⟩
  | k + 1 => by
    obtain ⟨ih0, ih1, ih2, ih3, ih4⟩ := compasslaw04_WalkNests.mono_l k
    refine ⟨?_, ?_, ?_, ?_, ?_⟩
    · intro y0 y1 y2 y3 y4
      unfold compasslaw04_WalkNests.j0
      repeat' first
      | (with_reducible exact ih0 _ _ _ _ _)
      | (with_reducible exact ih1 _ _ _ _ _ _ _)
      | (with_reducible exact ih2 _ _ _ _ _ _ _ _ _ _ _)
      | (with_reducible exact ih3 _ _ _ _ _ _ _ _ _ _)
      | (with_reducible exact ih4 _ _ _ _ _)
      | (with_reducible exact compasslaw04_awake.mono _)
      | (with_reducible exact walk_Visit.mono _ _ _)
      | (with_reducible exact LeO.refl _)
      | (with_reducible exact LeO.none _)
      | (with_reducible refine LeO.ite ?_ ?_)
      | (with_reducible refine LeO.bind ?_ (fun _ => ?_))
      | exact ih0 _ _ _ _ _
      | exact ih1 _ _ _ _ _ _ _
      | exact ih2 _ _ _ _ _ _ _ _ _ _ _
      | exact ih3 _ _ _ _ _ _ _ _ _ _
      | exact ih4 _ _ _ _ _
      | exact compasslaw04_awake.mono _
      | exact walk_Visit.mono _ _ _
      | exact LeO.none _
      | refine LeO.ite ?_ ?_
      | refine LeO.bind ?_ (fun _ => ?_)
    · intro y0 y1 y2 y3 y4 y5 y6
      unfold compasslaw04_WalkNests.l0
      repeat' first
      | (with_reducible exact ih0 _ _ _ _ _)
      | (with_reducible exact ih1 _ _ _ _ _ _ _)
      | (with_reducible exact ih2 _ _ _ _ _ _ _ _ _ _ _)
      | (with_reducible exact ih3 _ _ _ _ _ _ _ _ _ _)
      | (with_reducible exact ih4 _ _ _ _ _)
      | (with_reducible exact compasslaw04_awake.mono _)
      | (with_reducible exact walk_Visit.mono _ _ _)
      | (with_reducible exact LeO.refl _)
      | (with_reducible exact LeO.none _)
      | (with_reducible refine LeO.ite ?_ ?_)
      | (with_reducible refine LeO.bind ?_ (fun _ => ?_))
      | exact ih0 _ _ _ _ _
      | exact ih1 _ _ _ _ _ _ _
      | exact ih2 _ _ _ _ _ _ _ _ _ _ _
      | exact ih3 _ _ _ _ _ _ _ _ _ _
      | exact ih4 _ _ _ _ _
      | exact compasslaw04_awake.mono _
      | exact walk_Visit.mono _ _ _
      | exact LeO.none _
      | refine LeO.ite ?_ ?_
      | refine LeO.bind ?_ (fun _ => ?_)
    · intro y0 y1 y2 y3 y4 y5 y6 y7 y8 y9 y10
      unfold compasslaw04_WalkNests.l1
      repeat' first
      | (with_reducible exact ih0 _ _ _ _ _)
      | (with_reducible exact ih1 _ _ _ _ _ _ _)
      | (with_reducible exact ih2 _ _ _ _ _ _ _ _ _ _ _)
      | (with_reducible exact ih3 _ _ _ _ _ _ _ _ _ _)
      | (with_reducible exact ih4 _ _ _ _ _)
      | (with_reducible exact compasslaw04_awake.mono _)
      | (with_reducible exact walk_Visit.mono _ _ _)
      | (with_reducible exact LeO.refl _)
      | (with_reducible exact LeO.none _)
      | (with_reducible refine LeO.ite ?_ ?_)
      | (with_reducible refine LeO.bind ?_ (fun _ => ?_))
      | exact ih0 _ _ _ _ _
      | exact ih1 _ _ _ _ _ _ _
      | exact ih2 _ _ _ _ _ _ _ _ _ _ _
      | exact ih3 _ _ _ _ _ _ _ _ _ _
      | exact ih4 _ _ _ _ _
      | exact compasslaw04_awake.mono _
      | exact walk_Visit.mono _ _ _
      | exact LeO.none _
      | refine LeO.ite ?_ ?_
      | refine LeO.bind ?_ (fun _ => ?_)
    · intro y0 y1 y2 y3 y4 y5 y6 y7 y8 y9
      unfold compasslaw04_WalkNests.l2
      repeat' first
      | (with_reducible exact ih0 _ _ _ _ _)
      | (with_reducible exact ih1 _ _ _ _ _ _ _)
      | (with_reducible exact ih2 _ _ _ _ _ _ _ _ _ _ _)
      | (with_reducible exact ih3 _ _ _ _ _ _ _ _ _ _)
      | (with_reducible exact ih4 _ _ _ _ _)
      | (with_reducible exact compasslaw04_awake.mono _)
      | (with_reducible exact walk_Visit.mono _ _ _)
      | (with_reducible exact LeO.refl _)
      | (with_reducible exact LeO.none _)
      | (with_reducible refine LeO.ite ?_ ?_)
      | (with_reducible refine LeO.bind ?_ (fun _ => ?_))
      | exact ih0 _ _ _ _ _
      | exact ih1 _ _ _ _ _ _ _
      | exact ih2 _ _ _ _ _ _ _ _ _ _ _
      | exact ih3 _ _ _ _ _ _ _ _ _ _
      | exact ih4 _ _ _ _ _
      | exact compasslaw04_awake.mono _
      | exact walk_Visit.mono _ _ _
      | exact LeO.none _
      | refine LeO.ite ?_ ?_
      | refine LeO.bind ?_ (fun _ => ?_)
    · intro y0 y1 y2 y3 y4
      unfold compasslaw04_WalkNests.l3
      repeat' first
      | (with_reducible exact ih0 _ _ _ _ _)
      | (with_reducible exact ih1 _ _ _ _ _ _ _)
      | (with_reducible exact ih2 _ _ _ _ _ _ _ _ _ _ _)
      | (with_reducible exact ih3 _ _ _ _ _ _ _ _ _ _)
      | (with_reducible exact ih4 _ _ _ _ _)
      | (with_reducible exact compasslaw04_awake.mono _)
      | (with_reducible exact walk_Visit.mono _ _ _)
      | (with_reducible exact LeO.refl _)
      | (with_reducible exact LeO.none _)
      | (with_reducible refine LeO.ite ?_ ?_)
      | (with_reducible refine LeO.bind ?_ (fun _ => ?_))
      | exact ih0 _ _ _ _ _
      | exact ih1 _ _ _ _ _ _ _
      | exact ih2 _ _ _ _ _ _ _ _ _ _ _
      | exact ih3 _ _ _ _ _ _ _ _ _ _
      | exact ih4 _ _ _ _ _
      | exact compasslaw04_awake.mono _
      | exact walk_Visit.mono _ _ _
      | exact LeO.none _
      | refine LeO.ite ?_ ?_
      | refine LeO.bind ?_ (fun _ => ?_)
theorem compasslaw04_WalkNests.mono : ∀ a0 a1 k, LeO (compasslaw04_WalkNests.f k a0 a1) (compasslaw04_WalkNests.f (k + 1) a0 a1) := by
  intro a0 a1 k
  obtain ⟨ih0, ih1, ih2, ih3, ih4⟩ := compasslaw04_WalkNests.mono_l k
  unfold compasslaw04_WalkNests.f
  repeat' first
      | (with_reducible exact ih0 _ _ _ _ _)
      | (with_reducible exact ih1 _ _ _ _ _ _ _)
      | (with_reducible exact ih2 _ _ _ _ _ _ _ _ _ _ _)
      | (with_reducible exact ih3 _ _ _ _ _ _ _ _ _ _)
      | (with_reducible exact ih4 _ _ _ _ _)
      | (with_reducible exact compasslaw04_awake.mono _)
      | (with_reducible exact walk_Visit.mono _ _ _)
      | (with_reducible exact LeO.refl _)
      | (with_reducible exact LeO.none _)
      | (with_reducible refine LeO.ite ?_ ?_)
      | (with_reducible refine LeO.bind ?_ (fun _ => ?_))
      | exact ih0 _ _ _ _ _
      | exact ih1 _ _ _ _ _ _ _
      | exact ih2 _ _ _ _ _ _ _ _ _ _ _
      | exact ih3 _ _ _ _ _ _ _ _ _ _
      | exact ih4 _ _ _ _ _
      | exact compasslaw04_awake.mono _
      | exact walk_Visit.mono _ _ _
      | exact LeO.none _
      | refine LeO.ite ?_ ?_
      | refine LeO.bind ?_ (fun _ => ?_)
def compasslaw04_WalkNests.T12 : Bool × List (List Nat × List Nat) := (true, [([], []), ([], []), ([0, 1], [0, 1]), ([2], [2]), ([], []), ([], []), ([4, 5], [4, 5]), ([6], [6]), ([3, 7], [3, 7]), ([8], [8]), ([], [])])
def compasslaw04_WalkNests.B12 : List Nat := [0, 0, 3, 7, 0, 0, 48, 112, 255, 511, 0]
theorem compasslaw04_WalkNests.tab12 : rtab .any (opsOf Try.f8 12) = compasslaw04_WalkNests.T12 := by kernel_rfl
theorem compasslaw04_WalkNests.bits12 : waitsOk compasslaw04_WalkNests.T12.2 compasslaw04_WalkNests.B12 = true := by kernel_rfl
def compasslaw04_WalkNests.T19 : Bool × List (List Nat × List Nat) := (true, [([], []), ([], []), ([0, 1], [0, 1]), ([2], [2]), ([], []), ([], []), ([4, 5], [4, 5]), ([6], [6]), ([3, 7], [3, 7])])
def compasslaw04_WalkNests.B19 : List Nat := [0, 0, 3, 7, 0, 0, 48, 112, 255]
theorem compasslaw04_WalkNests.tab19 : rtab .any (opsOf Try.f8 19) = compasslaw04_WalkNests.T19 := by kernel_rfl
theorem compasslaw04_WalkNests.bits19 : waitsOk compasslaw04_WalkNests.T19.2 compasslaw04_WalkNests.B19 = true := by kernel_rfl
def compasslaw04_WalkNests.T24 : Bool × List (List Nat × List Nat) := (true, [([], []), ([], []), ([0, 1], [0, 1]), ([2], [2]), ([], []), ([], []), ([4, 5], [4, 5]), ([6], [6]), ([3, 7], [3, 7]), ([8], [8]), ([9], [9]), ([9], [9]), ([10, 11, 9], [9, 10, 11]), ([12, 9], [9, 12]), ([9], [9]), ([9], [9]), ([14, 15, 9], [9, 14, 15]), ([16, 9], [9, 16]), ([13, 17, 9], [9, 13, 17]), ([9, 18], [9, 18]), ([19, 9], [19]), ([20], [20]), ([20], [20]), ([21, 22, 20], [20, 21, 22]), ([23, 20], [20, 23]), ([20], [20]), ([20], [20]), ([25, 26, 20], [20, 25, 26]), ([27, 20], [20, 27]), ([24, 28, 20], [20, 24, 28]), ([20, 29], [20, 29])])
def compasslaw04_WalkNests.B24 : List Nat := [0, 0, 3, 7, 0, 0, 48, 112, 255, 511, 1023, 1023, 4095, 8191, 1023, 1023, 50175, 115711, 262143, 524287, 1048575, 2097151, 2097151, 8388607, 16777215, 2097151, 2097151, 102760447, 236978175, 536870911, 1073741823]
theorem compasslaw04_WalkNests.tab24 : rtab .any (opsOf Try.f8 24) = compasslaw04_WalkNests.T24 := by kernel_rfl
theorem compasslaw04_WalkNests.bits24 : waitsOk compasslaw04_WalkNests.T24.2 compasslaw04_WalkNests.B24 = true := by kernel_rfl
def compasslaw04_WalkNests.T31 : Bool × List (List Nat × List Nat) := (true, [([], []), ([], []), ([1], [1]), ([0, 2], [0, 2]), ([3], [3]), ([], []), ([], []), ([6], [6]), ([5, 7], [5, 7]), ([8], [8]), ([4, 9], [4, 9])])
def compasslaw04_WalkNests.B31 : List Nat := [0, 0, 2, 7, 15, 0, 0, 64, 224, 480, 1023]
theorem compasslaw04_WalkNests.tab31 : rtab .any (opsOf Try.f8 31) = compasslaw04_WalkNests.T31 := by kernel_rfl
theorem compasslaw04_WalkNests.bits31 : waitsOk compasslaw04_WalkNests.T31.2 compasslaw04_WalkNests.B31 = true := by kernel_rfl
set_option maxHeartbeats 8000000 in
set_option maxRecDepth 100000 in
theorem compasslaw04_WalkNests.calls (k : Nat) (a0_0 : Int) (A0_1 : Option Addr) (c0_1 : Nat) (l0_1 : List (S41)) (r : Bool) (w : World) (hr0_1 : Kd.C k41 w A0_1 l0_1.length l0_1) (hc0_1 : l0_1.length ≤ c0_1) (hr_ : r = true) (h : compasslaw04_WalkNests.f k a0_0 l0_1 = some r) :
    Calls Try.prog 8 #[.agg #[.int .i64 a0_0, .slice A0_1 l0_1.length c0_1]] w fun e w' => e = .returned (.bool r) ∧ Below w.heap.size w w' := by
 have hu24 := Try.underlying24
 have hu41 := Try.underlying41
 have HR0_1 := ak hr0_1
 have HC0_1 := ak hc0_1
 clear hr0_1 hc0_1
 have HB := ak (Below.refl w.heap.size w)
 have HR_ := ak hr_
 clear hr_
 have H : ((compasslaw04_awake.f k).bind fun t293 => (if t293 = true then ((walk_Visit.f k a0_0 l0_1).bind fun bt294 => (if bt294.2.2 = 0 then (if (bt294.1.length : Int) = a0_0 then (compasslaw04_WalkNests.j0 k bt294.1 bt294.2.1 ((bt294.2.1.length : Int) != a0_0) a0_0 l0_1) else (compasslaw04_WalkNests.j0 k bt294.1 bt294.2.1 true a0_0 l0_1)) else (if (bt294.1.length : Int) = 0 then (some ((bt294.2.1.length : Int) == 0)) else (some false)))) else (some false))) = some r := h
 clear h
 replace H := Option.bind_eq_some_iff.mp H
 obtain ⟨t293, A20, H⟩ := H
 replace H : (if t293 = true then ((walk_Visit.f k a0_0 l0_1).bind fun bt294 => (if bt294.2.2 = 0 then (if (bt294.1.length : Int) = a0_0 then (compasslaw04_WalkNests.j0 k bt294.1 bt294.2.1 ((bt294.2.1.length : Int) != a0_0) a0_0 l0_1) else (compasslaw04_WalkNests.j0 k bt294.1 bt294.2.1 true a0_0 l0_1)) else (if (bt294.1.length : Int) = 0 then (some ((bt294.2.1.length : Int) == 0)) else (some false)))) else (some false)) = some r := H
 have A2 := ak A20
 clear A20
 by_cases c3 : t293 = true
 ·
  subst c3
  have H1 : ((walk_Visit.f k a0_0 l0_1).bind fun bt294 => (if bt294.2.2 = 0 then (if (bt294.1.length : Int) = a0_0 then (compasslaw04_WalkNests.j0 k bt294.1 bt294.2.1 ((bt294.2.1.length : Int) != a0_0) a0_0 l0_1) else (compasslaw04_WalkNests.j0 k bt294.1 bt294.2.1 true a0_0 l0_1)) else (if (bt294.1.length : Int) = 0 then (some ((bt294.2.1.length : Int) == 0)) else (some false)))) = some r := by rw [if_pos rfl] at H; exact H
  clear H
  have H := H1
  clear H1
  replace H := Option.bind_eq_some_iff.mp H
  obtain ⟨⟨t294, t297, t300⟩, A40, H⟩ := H
  replace H : (if t300 = 0 then (if (t294.length : Int) = a0_0 then (compasslaw04_WalkNests.j0 k t294 t297 ((t297.length : Int) != a0_0) a0_0 l0_1) else (compasslaw04_WalkNests.j0 k t294 t297 true a0_0 l0_1)) else (if (t294.length : Int) = 0 then (some ((t297.length : Int) == 0)) else (some false))) = some r := H
  have A4 := ak A40
  clear A40
  by_cases c5 : t300 = 0
  ·
   rw [if_pos c5] at H
   have c5b0 : (t300 == 0) = true := beq_iff_eq.mpr c5
   have c5b1 : (t300 != 0) = false := bne_eq_false_iff_eq.mpr c5
   clear c5
   have HC6 := ak H
   clear H
   go_enter Try.func8, Try.ntmps8
   go_upto_region 6 with (first | ((with_reducible refine gate_dst (N := 1) rfl ?_); (try (refine gate_guard (by rfl) ?_; dsimp only)); refine box_event ?hg (N := 1) ?hd (cs := #[.int .i64 a0_0, .slice A0_1 l0_1.length c0_1]) (t := 24) ?hr ?_; (case hd => rfl); (case hg => rfl); (case hr => first | (go_simp; done) | (go_simp; rfl)); intro gb292 hg w7 hbox hb; have n0_ := ak (below_step lb hb); have n1_ := ak (hbox); have n2_ := ak ((by rw [hg]; exact (below_size lb) : w.heap.size ≤ gb292)); have n3_ := ak ((by rw [hg]; exact (below_size lb) : w.heap.size ≤ gb292)); clear HB; have HB := n0_; have BK292 := n1_; have GW292 := n2_; have GE292 := n3_; clear n0_ n1_ n2_ n3_; clear hb hbox hg) | ((with_reducible refine gate_callee (f := 12) rfl ?_); refine goesL_ (some 13) rfl rfl Try.func12 (by kernel_rfl) rfl #[] rfl (by (try simp only [List.map_toArray, List.map_cons, List.map_nil]); first | done | rfl | (simp only [List.length_drop, List.length_take]; rfl)) ?_; (with_reducible refine (compasslaw04_awake.calls k  true _ A2.out).mono ?_); rintro e w8 ⟨rfl, hb⟩; refine ⟨_, rfl, ?_⟩; have n0_ := ak (blk_below (bx BK292.out) hb); have n1_ := ak (below_step lb hb); clear BK292; clear HB; have BK292 := n0_; have HB := n1_; clear n0_ n1_; (try clear hb); (try clear hb2); (try clear hk); (try clear hi); have hcz9_0 : w8.cell? ⟨gb292, 0, none⟩ = some (.int .i64 a0_0) := (blk_cell BK292.out 0).trans rfl; have hcz9_1 : w8.cell? ⟨gb292, 1, none⟩ = some (.slice A0_1 l0_1.length c0_1) := (blk_cell BK292.out 1).trans rfl; have hfz9_0 := blk_frozen BK292.out 0; have hfz9_1 := blk_frozen BK292.out 1) | ((with_reducible refine gate_callee (f := 19) rfl ?_); refine goesL_ (some 17) rfl rfl Try.func19 (by kernel_rfl) rfl #[.agg #[.int .i64 a0_0, .slice A0_1 l0_1.length c0_1]] rfl (by (try simp only [List.map_toArray, List.map_cons, List.map_nil]); first | done | rfl | (simp only [List.length_drop, List.length_take]; rfl)) ?_; (with_reducible refine (walk_Visit.calls k a0_0 _ _ l0_1 t294 t297 t300 _ ?side1 ?side2 A4.out).mono ?_); (case side1 => repeat (first | exact (Kd.C_below HR0_1.out HB.out) | (with_reducible refine Kd.C_alloc ?_ _) | (with_reducible refine Kd.C_drewN ?_ _) | (with_reducible refine Kd.C_drew ?_))); (case side2 => exact HC0_1.out); rintro e w10 ⟨v295, v298, rfl, ho0, ho1, hb⟩; refine ⟨_, rfl, ?_⟩; have n0_ := ak (Kd.R_lower ho0 (below_size lb)); have n1_ := ak (Kd.R_lower ho1 (below_size lb)); have n2_ := ak (blk_below (bx BK292.out) hb); have n3_ := ak (below_step lb hb); clear BK292; clear HB; have HO296 := n0_; have HO299 := n1_; have BK292 := n2_; have HB := n3_; clear n0_ n1_ n2_ n3_; (try clear hb); (try clear hb2); (try clear hk); (try clear hi); (try clear ho0); (try clear ho1)))
   (try simp only [Act.put, List.setIfInBounds_toArray, List.set_cons_zero, List.set_cons_succ])
   go_cut [42] (fun v42 wc => ∃ (kq : Nat) (x42_5 : Bool), v42 = .bool x42_5 ∧ Aside0 (compasslaw04_WalkNests.j0 kq t294 t297 x42_5 a0_0 l0_1 = some r) ∧ Aside0 (kq ≤ k) ∧ Aside0 (Kd.R (Kd.int .i64) 3 wc w.heap.size (fun k_ => some k_ ≠ (v298 : Value).ownBlock) v295 t294) ∧ Aside0 (Kd.R (Kd.int .i64) 3 wc w.heap.size (fun k_ => some k_ ≠ (v295 : Value).ownBlock) v298 t297) ∧ Aside0 (wc.heap[gb292]? = some (.cells #[.int .i64 a0_0, (.slice A0_1 l0_1.length c0_1)] 24 (0, 0))) ∧ Aside0 (Below w.heap.size w wc))
   case first =>
    have H := HC6.out
    clear HC6
    by_cases c11 : (t294.length : Int) = a0_0
    ·
     rw [if_pos c11] at H
     have c11b0 : ((t294.length : Int) == a0_0) = true := beq_iff_eq.mpr c11
     have c11b1 : ((t294.length : Int) != a0_0) = false := bne_eq_false_iff_eq.mpr c11
     clear c11
     (first | rw [c11b0] | (simp only [i64_w, i32_w]; rw [c11b0]) | skip)
     have H' := ak H
     clear H
     obtain ⟨Ao12, co12, eo12⟩ := Kd.R_slice HO296.out
     subst eo12
     have hcz13_0 : w10.cell? ⟨gb292, 0, none⟩ = some (.int .i64 a0_0) := (blk_cell BK292.out 0).trans rfl
     have hcz13_1 : w10.cell? ⟨gb292, 1, none⟩ = some (.slice A0_1 l0_1.length c0_1) := (blk_cell BK292.out 1).trans rfl
     have hfz13_0 := blk_frozen BK292.out 0
     have hfz13_1 := blk_frozen BK292.out 1
     obtain ⟨Ao14, co14, eo14⟩ := Kd.R_slice HO299.out
     subst eo14
     go_wp2
     go_meet
     case rel => exact ⟨_, (((t297.length : Int) != a0_0)), (by first | rfl | (simp [*]; done)), H', ⟨by first | omega | exact Nat.le_refl _⟩, ⟨rx HO296.out⟩, ⟨rx HO299.out⟩, ⟨bx BK292.out⟩, ⟨lb⟩⟩
    ·
     rw [if_neg c11] at H
     have c11b0 : ((t294.length : Int) == a0_0) = false := beq_eq_false_iff_ne.mpr c11
     have c11b1 : ((t294.length : Int) != a0_0) = true := bne_iff_ne.mpr c11
     (first | rw [c11b0] | (simp only [i64_w, i32_w]; rw [c11b0]) | skip)
     have H' := ak H
     clear H
     obtain ⟨Ao15, co15, eo15⟩ := Kd.R_slice HO296.out
     subst eo15
     have hcz16_0 : w10.cell? ⟨gb292, 0, none⟩ = some (.int .i64 a0_0) := (blk_cell BK292.out 0).trans rfl
     have hcz16_1 : w10.cell? ⟨gb292, 1, none⟩ = some (.slice A0_1 l0_1.length c0_1) := (blk_cell BK292.out 1).trans rfl
     have hfz16_0 := blk_frozen BK292.out 0
     have hfz16_1 := blk_frozen BK292.out 1
     go_wp2
     go_meet
     case rel => exact ⟨_, (true), (by first | rfl | (simp [*]; done)), H', ⟨by first | omega | exact Nat.le_refl _⟩, ⟨rx HO296.out⟩, ⟨rx HO299.out⟩, ⟨bx BK292.out⟩, ⟨lb⟩⟩
   case rest =>
    clear HC6
    try clear c1; try clear p2; try clear c3; try clear c5; try clear c5b0; try clear c5b1; try clear c8; try clear c11; try clear c11b0; try clear c11b1; try clear c12; try clear hcz13_0; try clear hcz13_1; try clear hcz16_0; try clear hcz16_1; try clear hcz9_0; try clear hcz9_1; try clear hfz13_0; try clear hfz13_1; try clear hfz16_0; try clear hfz16_1; try clear hfz9_0; try clear hfz9_1
    obtain ⟨kq, x42_5, rfl, HA, HJ5, HO_3, HO_4, BK292, HB⟩ := hcut
    cases kq with
    | zero => exact absurd HA.out (by simp [compasslaw04_WalkNests.j0])
    | succ kj5 =>
     have H := HA.out
     clear HA
     simp only [compasslaw04_WalkNests.j0] at H
     by_cases c17 : x42_5 = true
     ·
      subst c17
      have H1 : (some false) = some r := by rw [if_pos rfl] at H; exact H
      clear H
      have H := H1
      clear H1
      exact absurd ((Option.some.inj H).trans HR_.out) (by decide)
     ·
      replace c17 := Bool.eq_false_iff.mpr c17
      subst c17
      have H1 : (if 0 ≤ (wrap64 (2 * a0_0)) then (if (wrap64 (2 * a0_0) : Int).toNat ≤ 281474976710656 then (compasslaw04_WalkNests.l0 kj5 t294 t297 (List.replicate (wrap64 (2 * a0_0) : Int).toNat false) (t294.length : Int) 0 a0_0 l0_1) else (none)) else (none)) = some r := by rw [if_neg (show ¬ (false = true) by decide)] at H; exact H
      clear H
      have H := H1
      clear H1
      obtain ⟨ji18, hji18⟩ : ∃ j_ : Int, (wrap64 (2 * a0_0)) = j_ := ⟨_, rfl⟩
      replace H : (if 0 ≤ (ji18) then (if (ji18 : Int).toNat ≤ 281474976710656 then (compasslaw04_WalkNests.l0 kj5 t294 t297 (List.replicate (ji18 : Int).toNat false) (t294.length : Int) 0 a0_0 l0_1) else (none)) else (none)) = some r := by first | (rw [hji18] at H; exact H) | (simp only [hji18] at H ⊢; exact H)
      have hji18w : (IntKind.i64.wrap (2 * a0_0)) = ji18 := (i64_w _).trans hji18
      by_cases c19 : 0 ≤ (ji18)
      rotate_left
      ·
       rw [if_neg c19] at H
       exact absurd H (by simp)
      rw [if_pos c19] at H
      have c19b0 := eq_true c19
      have c19b1 : decide (0 ≤ (ji18)) = true := decide_eq_true c19
      clear c19
      by_cases c20 : (ji18 : Int).toNat ≤ 281474976710656
      rotate_left
      ·
       rw [if_neg c20] at H
       exact absurd H (by simp)
      rw [if_pos c20] at H
      have c20b0 := eq_true c20
      have c20b1 : decide ((ji18 : Int).toNat ≤ 281474976710656) = true := decide_eq_true c20
      clear c20
      obtain ⟨y301, hy301⟩ : ∃ y_ : List Bool, y_ = (List.replicate (ji18 : Int).toNat false) := ⟨_, rfl⟩
      replace H : (compasslaw04_WalkNests.l0 kj5 t294 t297 y301 (t294.length : Int) 0 a0_0 l0_1) = some r := by first | (rw [hy301]; exact H) | exact H
      have Ny301 := ak hy301
      clear hy301
      have H' := ak H
      clear H
      have hcz21_0 : wc.cell? ⟨gb292, 0, none⟩ = some (.int .i64 a0_0) := (blk_cell BK292.out 0).trans rfl
      have hcz21_1 : wc.cell? ⟨gb292, 1, none⟩ = some (.slice A0_1 l0_1.length c0_1) := (blk_cell BK292.out 1).trans rfl
      have hfz21_0 := blk_frozen BK292.out 0
      have hfz21_1 := blk_frozen BK292.out 1
      go_wp2_with (first | ((with_reducible refine gate_dst (N := 46) rfl ?_); (try (refine gate_guard (by rfl) ?_; dsimp only)); refine Kd.R_make Kd.bool _ 4 rfl (N := 46) rfl 39 _ _ rfl ji18 rfl rfl Try.underlying39 (.bool false) 1 info4 rfl (by decide) (by omega) false (ok := fun _ => True) (okp := fun _ => True) rfl (fun _ hk => hk) trivial (oda) (Nat.le_trans (Nat.mul_le_mul_right _ (oda : ji18.toNat ≤ 281474976710656)) (by omega)) (Below.refl _ _) (Nat.le_refl _) ?_; intro v302 w22 ho23 hb hg_ hnew_; clear hg_ hnew_; (first | rw [← Ny301.out] at ho23 | (simp only [Int.reduceToNat] at ho23; rw [← Ny301.out] at ho23)); have n0_ := ak (Kd.R_below (rx HO_3.out) hb); have n1_ := ak (Kd.R_below (rx HO_4.out) hb); have n2_ := ak (Kd.R_lower ho23 (below_size lb)); have n3_ := ak (blk_below (bx BK292.out) hb); have n4_ := ak (below_step lb hb); clear HO_3; clear HO_4; clear BK292; clear HB; have HO_3 := n0_; have HO_4 := n1_; have HO303 := n2_; have BK292 := n3_; have HB := n4_; clear n0_ n1_ n2_ n3_ n4_; clear hb ho23; obtain ⟨Ao24, co24, eo24⟩ := Kd.R_slice HO_3.out; subst eo24))
      go_loopg [49] kj5 (fun kq v49 w' => ∃ (x6_2 : List Bool) (x49_2 : Int), v49 = .int .i64 x49_2 ∧ Aside0 (compasslaw04_WalkNests.l0 kq t294 t297 x6_2 (t294.length : Int) x49_2 a0_0 l0_1 = some r) ∧ Aside0 (kq ≤ kj5) ∧ Aside0 (Kd.R (Kd.int .i64) 3 w' w.heap.size (fun k_ => some k_ ≠ (v298 : Value).ownBlock) (.slice Ao24 t294.length co24) t294) ∧ Aside0 (Kd.R (Kd.int .i64) 3 w' w.heap.size (fun k_ => some k_ ≠ ((.slice Ao24 t294.length co24) : Value).ownBlock) v298 t297) ∧ Aside0 (Kd.R Kd.bool 4 w' w.heap.size (fun _ => True) v302 x6_2) ∧ Aside0 (w'.heap[gb292]? = some (.cells #[.int .i64 a0_0, (.slice A0_1 l0_1.length c0_1)] 24 (0, 0))) ∧ Aside0 (Below w.heap.size w w'))
      case atStart => exact ⟨(y301), (0), (by first | rfl | (simp [*]; done)), H', ⟨Nat.le_refl _⟩, ⟨rx HO_3.out⟩, ⟨rx HO_4.out⟩, ⟨rx HO303.out⟩, ⟨bx BK292.out⟩, ⟨lb⟩⟩
      case round =>
       clear H'
       try clear c1; try clear c2; try clear p2; try clear c3; try clear c5; try clear c5b0; try clear c5b1; try clear p6; try clear c8; try clear c11; try clear c11b0; try clear c11b1; try clear c12; try clear c17; try clear c19; try clear c19b0; try clear c19b1; try clear c20; try clear c20b0; try clear c20b1; try clear hcz13_0; try clear hcz13_1; try clear hcz16_0; try clear hcz16_1; try clear hcz21_0; try clear hcz21_1; try clear hcz9_0; try clear hcz9_1; try clear hfz13_0; try clear hfz13_1; try clear hfz16_0; try clear hfz16_1; try clear hfz21_0; try clear hfz21_1; try clear hfz9_0; try clear hfz9_1; try clear p2
       obtain ⟨x6_2, x49_2, rfl, HA, HK2, HO_3, HO_4, HO_6, BK292, HB⟩ := hrel
       cases gk with
       | zero => exact absurd HA.out (by simp [compasslaw04_WalkNests.l0])
       | succ k2 =>
        have H := HA.out
        clear HA
        simp only [compasslaw04_WalkNests.l0] at H
        by_cases c25 : x49_2 < (t294.length : Int)
        ·
         rw [if_pos c25] at H
         have c25b0 : decide (x49_2 < (t294.length : Int)) = true := decide_eq_true c25
         clear c25
         by_cases c26 : 0 ≤ x49_2
         rotate_left
         ·
          rw [if_neg c26] at H
          exact absurd H (by simp)
         rw [if_pos c26] at H
         have c26b0 : decide (0 ≤ x49_2) = true := decide_eq_true c26
         clear c26
         by_cases c27 : x49_2 < (t294.length : Int)
         rotate_left
         ·
          rw [if_neg c27] at H
          exact absurd H (by simp)
         rw [if_pos c27] at H
         have c27b0 : decide (x49_2 < (t294.length : Int)) = true := decide_eq_true c27
         clear c27
         by_cases c28 : x49_2 < (t297.length : Int)
         rotate_left
         ·
          rw [if_neg c28] at H
          exact absurd H (by simp)
         rw [if_pos c28] at H
         have c28b0 : decide (x49_2 < (t297.length : Int)) = true := decide_eq_true c28
         clear c28
         obtain ⟨y306, hy306⟩ : ∃ y_ : List Int, y_ = (([rd t294 x49_2, rd t297 x49_2] : List Int)) := ⟨_, rfl⟩
         replace H : (compasslaw04_WalkNests.l1 k2 t294 t297 x6_2 x49_2 (t294.length : Int) x49_2 y306 (y306.length : Int) 0 a0_0 l0_1) = some r := by first | (rw [hy306]; exact H) | exact H
         have Ny306 := ak hy306
         clear hy306
         have H' := ak H
         clear H
         try go_wp2
         have n0_ := ak (Kd.R_drew HO_3.out)
         have n1_ := ak (Kd.R_drew HO_4.out)
         have n2_ := ak (Kd.R_drew HO_6.out)
         have n3_ := ak (blk_drew BK292.out)
         have n4_ := ak (below_drew1 HB.out)
         clear HO_3
         clear HO_4
         clear HO_6
         clear BK292
         clear HB
         have HO_3 := n0_
         have HO_4 := n1_
         have HO_6 := n2_
         have BK292 := n3_
         have HB := n4_
         clear n0_ n1_ n2_ n3_ n4_
         have p304 : 0 ≤ (x49_2 : Int) := oda
         have q304 : x49_2 < (t294.length : Int) := oda
         obtain ⟨ad304, e304, hx304_0⟩ := Kd.at_int (Kd.R_reads' HO_3.out).2.2 x49_2 p304 q304
         cases e304
         replace p304 := eq_true p304
         replace q304 := eq_true q304
         obtain ⟨Ao30, co30, eo30⟩ := Kd.R_slice HO_4.out
         (first | subst eo30 | (injection eo30 with f1_ f2_ f3_; have f4_ := f1_.symm; have f5_ := f3_.symm; clear f1_ f2_ f3_; subst f4_; subst f5_))
         have p305 : 0 ≤ (x49_2 : Int) := oda
         have q305 : x49_2 < (t297.length : Int) := oda
         obtain ⟨ad305, e305, hx305_0⟩ := Kd.at_int (Kd.R_reads' HO_4.out).2.2 x49_2 p305 q305
         cases e305
         replace p305 := eq_true p305
         replace q305 := eq_true q305
         refine start_ (n := 11) (S := fun w' => w'.cell? (ad304.add (x49_2).toNat) = some (.int .i64 (rd t294 x49_2)) ∧ w'.cell? (ad305.add (x49_2).toNat) = some (.int .i64 (rd t297 x49_2))) (ds := []) #[false, false, false, false, false, false, false, false, false, false, false] (by kernel_rfl) rfl rfl ⟨hx304_0, hx305_0⟩ (fun hHeld => ?_); refine with_tabW compasslaw04_WalkNests.tab12 compasslaw04_WalkNests.bits12 (fun HT_ HW_ => ?_)
         generalize wr.drew = w29 at HO_3 HO_4 HO_6 BK292 HB hx304_0 hx305_0 hHeld ⊢
         refine pure_ (i := 0) (N := some 52) (v := ?_) (a' := ?_) #[true, false, false, false, false, false, false, false, false, false, false] rfl rfl (any_of HT_.out (by kernel_rfl)) (fun _ _ _ h => h) (Or.inl ⟨by rfl, ?_⟩) ?_ ?_; rotate_left; intro w'; go_simp; with_reducible rfl; rotate_left; simp only [Act.put, List.setIfInBounds_toArray, List.set_cons_zero, List.set_cons_succ, i64_w, i32_w]; rfl
         refine pure_ (i := 1) (N := some 53) (v := ?_) (a' := ?_) #[true, true, false, false, false, false, false, false, false, false, false] rfl rfl (any_of HT_.out (by kernel_rfl)) (fun _ _ _ h => h) (Or.inl ⟨by rfl, ?_⟩) ?_ ?_; rotate_left; intro w'; go_simp; with_reducible rfl; rotate_left; simp only [Act.put, List.setIfInBounds_toArray, List.set_cons_zero, List.set_cons_succ, i64_w, i32_w]; rfl
         refine pure_ (i := 2) (N := some 54) (v := ?_) (a' := ?_) #[true, true, true, false, false, false, false, false, false, false, false] rfl rfl (any_of HT_.out (by kernel_rfl)) (fun _ _ _ h => h) (Or.inl ⟨by rfl, ?_⟩) ?_ ?_; rotate_left; intro w'; go_simp; with_reducible rfl; rotate_left; simp only [Act.put, List.setIfInBounds_toArray, List.set_cons_zero, List.set_cons_succ, i64_w, i32_w]; rfl
         refine pure_ (i := 4) (N := some 56) (v := ?_) (a' := ?_) #[true, true, true, false, true, false, false, false, false, false, false] rfl rfl (any_of HT_.out (by kernel_rfl)) (fun _ _ _ h => h) (Or.inl ⟨by rfl, ?_⟩) ?_ ?_; rotate_left; intro w'; go_simp; with_reducible rfl; rotate_left; simp only [Act.put, List.setIfInBounds_toArray, List.set_cons_zero, List.set_cons_succ, i64_w, i32_w]; rfl
         refine pure_ (i := 5) (N := some 57) (v := ?_) (a' := ?_) #[true, true, true, false, true, true, false, false, false, false, false] rfl rfl (any_of HT_.out (by kernel_rfl)) (fun _ _ _ h => h) (Or.inl ⟨by rfl, ?_⟩) ?_ ?_; rotate_left; intro w'; go_simp; with_reducible rfl; rotate_left; simp only [Act.put, List.setIfInBounds_toArray, List.set_cons_zero, List.set_cons_succ, i64_w, i32_w]; rfl
         refine pure_ (i := 6) (N := some 58) (v := ?_) (a' := ?_) #[true, true, true, false, true, true, true, false, false, false, false] rfl rfl (any_of HT_.out (by kernel_rfl)) (fun _ _ _ h => h) (Or.inl ⟨by rfl, ?_⟩) ?_ ?_; rotate_left; intro w'; go_simp; with_reducible rfl; rotate_left; simp only [Act.put, List.setIfInBounds_toArray, List.set_cons_zero, List.set_cons_succ, i64_w, i32_w]; rfl
         refine pure_ (i := 10) (N := some 62) (v := ?_) (a' := ?_) #[true, true, true, false, true, true, true, false, false, false, true] rfl rfl (any_of HT_.out (by kernel_rfl)) (fun _ _ _ h => h) (Or.inl ⟨by rfl, ?_⟩) ?_ ?_; rotate_left; intro w'; go_simp; with_reducible rfl; rotate_left; simp only [Act.put, List.setIfInBounds_toArray, List.set_cons_zero, List.set_cons_succ, i64_w, i32_w]; rfl
         refine take_ (i := 3) (N := some 55) (v := ?_) (a' := ?_) #[true, true, true, true, true, true, true, false, false, false, true] rfl rfl (take_ofW HT_.out HW_.out (by kernel_rfl)) (fun _ _ _ h => h) (Or.inl ⟨by rfl, ?_⟩) hHeld ?_ ?_; rotate_left; rintro w' ⟨s0, s1⟩; go_simp; with_reducible rfl; rotate_left; simp only [Act.put, List.setIfInBounds_toArray, List.set_cons_zero, List.set_cons_succ, i64_w, i32_w]; rfl
         refine take_ (i := 7) (N := some 59) (v := ?_) (a' := ?_) #[true, true, true, true, true, true, true, true, false, false, true] rfl rfl (take_ofW HT_.out HW_.out (by kernel_rfl)) (fun _ _ _ h => h) (Or.inl ⟨by rfl, ?_⟩) hHeld ?_ ?_; rotate_left; rintro w' ⟨s0, s1⟩; go_simp; with_reducible rfl; rotate_left; simp only [Act.put, List.setIfInBounds_toArray, List.set_cons_zero, List.set_cons_succ, i64_w, i32_w]; rfl
         refine one_ (i := 8) (N := some 60) #[true, true, true, true, true, true, true, true, true, false, true] rfl rfl (one_of HT_.out (by kernel_rfl)) (by decide) (fun K hK => ?_)
         refine Kd.R_lit_step (Kd.int .i64) _ 3 ?hg (N := 60) ?hd (xs := ([rd t294 x49_2, rd t297 x49_2] : List Int)) (inner := [.int .i64 (rd t294 x49_2), .int .i64 (rd t297 x49_2)]) (ok := fun _ => True) (okp := fun _ => True) ?hr ?hp (fun _ hk => hk) trivial (Below.refl _ _) (Nat.le_refl _) (by simp) ?_; (case hd => rfl); (case hg => rfl); (case hr => first | (go_simp; done) | (go_simp; rfl)); (case hp => exact (Reps.one (show Kd.M (Kd.int .i64) _ _ _ (rd t294 x49_2) [.int .i64 (rd t294 x49_2)] from rfl) (Reps.one (show Kd.M (Kd.int .i64) _ _ _ (rd t297 x49_2) [.int .i64 (rd t297 x49_2)] from rfl) (Reps.none _ _))))
         intro v307 w31 ho32 hb hg_ hnew_
         have HS0_ := (hb.cell (World.block_lt_of_cell? _ _ (hHeld.1))).trans (hHeld.1)
         have HS1_ := (hb.cell (World.block_lt_of_cell? _ _ (hHeld.2))).trans (hHeld.2)
         clear hg_ hnew_
         (first | rw [← Ny306.out] at ho32 | (simp only [Int.reduceToNat] at ho32; rw [← Ny306.out] at ho32))
         have n0_ := ak (Kd.R_elder' (rx HO_3.out) (Kd.R_base ho32) hb)
         have n1_ := ak (Kd.R_elder' (rx HO_4.out) (Kd.R_base ho32) hb)
         have n2_ := ak (Kd.R_below (rx HO_6.out) hb)
         have n3_ := ak (Kd.R_lower (Kd.R_new' (Kd.R_new' ho32 (Kd.R_lt (rx HO_3.out))) (Kd.R_lt (rx HO_4.out))) (below_size lb))
         have n4_ := ak (blk_below (bx BK292.out) hb)
         have n5_ := ak (below_step lb hb)
         clear HO_3
         clear HO_4
         clear HO_6
         clear BK292
         clear HB
         have HO_3 := n0_
         have HO_4 := n1_
         have HO_6 := n2_
         have HO308 := n3_
         have BK292 := n4_
         have HB := n5_
         clear n0_ n1_ n2_ n3_ n4_ n5_
         clear hb ho32
         obtain ⟨Ao33, co33, eo33⟩ := Kd.R_slice HO308.out
         (first | subst eo33 | (injection eo33 with f1_ f2_ f3_; have f4_ := f1_.symm; have f5_ := f3_.symm; clear f1_ f2_ f3_; subst f4_; subst f5_))
         refine hK.out _ _ ⟨HS0_, HS1_⟩ (fun hHeld => ?_)
         clear hK K
         refine norm_ (a' := ?_) ?_ ?_
         rotate_left
         ·
          show Act.put _ (some 60) _ = _
          simp only [Act.put, List.setIfInBounds_toArray, List.set_cons_zero, List.set_cons_succ, i64_w, i32_w]
          rfl
         refine pure_ (i := 9) (N := some 61) (v := ?_) (a' := ?_) #[true, true, true, true, true, true, true, true, true, true, true] rfl rfl (any_of HT_.out (by kernel_rfl)) (fun _ _ _ h => h) (Or.inl ⟨by rfl, ?_⟩) ?_ ?_; rotate_left; intro w'; go_simp; with_reducible rfl; rotate_left; simp only [Act.put, List.setIfInBounds_toArray, List.set_cons_zero, List.set_cons_succ, i64_w, i32_w]; rfl
         refine done_ (done_of HT_.out (by kernel_rfl)) ?_
         try go_wp2
         go_loopg [62] k2 (fun kq v62 w' => ∃ (x6_3 : List Bool) (x62_3 : Int), v62 = .int .i64 x62_3 ∧ Aside0 (compasslaw04_WalkNests.l1 kq t294 t297 x6_3 x49_2 (t294.length : Int) x49_2 y306 (y306.length : Int) x62_3 a0_0 l0_1 = some r) ∧ Aside0 (kq ≤ k2) ∧ Aside0 (Kd.R (Kd.int .i64) 3 w' w.heap.size (fun k_ => some k_ ≠ ((.slice (some ad305) t297.length co30) : Value).ownBlock ∧ some k_ ≠ ((.slice Ao33 y306.length co33) : Value).ownBlock) (.slice (some ad304) t294.length co24) t294) ∧ Aside0 (Kd.R (Kd.int .i64) 3 w' w.heap.size (fun k_ => some k_ ≠ ((.slice (some ad304) t294.length co24) : Value).ownBlock ∧ some k_ ≠ ((.slice Ao33 y306.length co33) : Value).ownBlock) (.slice (some ad305) t297.length co30) t297) ∧ Aside0 (Kd.R Kd.bool 4 w' w.heap.size (fun _ => True) v302 x6_3) ∧ Aside0 (Kd.R (Kd.int .i64) 3 w' w.heap.size (fun k_ => some k_ ≠ ((.slice (some ad304) t294.length co24) : Value).ownBlock ∧ some k_ ≠ ((.slice (some ad305) t297.length co30) : Value).ownBlock) (.slice Ao33 y306.length co33) y306) ∧ Aside0 (w'.heap[gb292]? = some (.cells #[.int .i64 a0_0, (.slice A0_1 l0_1.length c0_1)] 24 (0, 0))) ∧ Aside0 (Below w.heap.size w w'))
         case atStart => exact ⟨(x6_2), (0), (by first | rfl | (simp [*]; done)), H', ⟨Nat.le_refl _⟩, ⟨rx HO_3.out⟩, ⟨rx HO_4.out⟩, ⟨rx HO_6.out⟩, ⟨by exact rx (Kd.R_mono HO308.out (fun _ hk => ⟨hk.1.2, hk.2⟩))⟩, ⟨bx BK292.out⟩, ⟨lb⟩⟩
         case round =>
          clear H'
          try clear c1; try clear c2; try clear p2; try clear c3; try clear p3; try clear q3; try clear hx3; try clear c5; try clear c5b0; try clear c5b1; try clear p6; try clear c8; try clear c11; try clear c11b0; try clear c11b1; try clear c12; try clear c17; try clear c19; try clear c19b0; try clear c19b1; try clear c20; try clear c20b0; try clear c20b1; try clear c25; try clear c25b0; try clear c26; try clear c26b0; try clear c27; try clear c27b0; try clear c28; try clear c28b0; try clear p30; try clear q30; try clear hx30; try clear hcz13_0; try clear hcz13_1; try clear hcz16_0; try clear hcz16_1; try clear hcz21_0; try clear hcz21_1; try clear hcz9_0; try clear hcz9_1; try clear hfz13_0; try clear hfz13_1; try clear hfz16_0; try clear hfz16_1; try clear hfz21_0; try clear hfz21_1; try clear hfz9_0; try clear hfz9_1; try clear hx304_0; try clear hx305_0; try clear p2; try clear p304; try clear p305; try clear p6; try clear q304; try clear q305
          obtain ⟨x6_3, x62_3, rfl, HA, HK3, HO_3, HO_4, HO_6, HO_60, BK292, HB⟩ := hrel
          cases gk with
          | zero => exact absurd HA.out (by simp [compasslaw04_WalkNests.l1])
          | succ k3 =>
           have H := HA.out
           clear HA
           simp only [compasslaw04_WalkNests.l1] at H
           by_cases c34 : x62_3 < (y306.length : Int)
           ·
            rw [if_pos c34] at H
            have c34b0 : decide (x62_3 < (y306.length : Int)) = true := decide_eq_true c34
            clear c34
            by_cases c35 : 0 ≤ x62_3
            rotate_left
            ·
             rw [if_neg c35] at H
             exact absurd H (by simp)
            rw [if_pos c35] at H
            have c35b0 : decide (0 ≤ x62_3) = true := decide_eq_true c35
            clear c35
            by_cases c36 : x62_3 < (y306.length : Int)
            rotate_left
            ·
             rw [if_neg c36] at H
             exact absurd H (by simp)
            rw [if_pos c36] at H
            have c36b0 : decide (x62_3 < (y306.length : Int)) = true := decide_eq_true c36
            clear c36
            by_cases c37 : (rd y306 x62_3) < 0
            ·
             rw [if_pos c37] at H
             have c37b0 : decide ((rd y306 x62_3) < 0) = true := decide_eq_true c37
             clear c37
             exact absurd ((Option.some.inj H).trans HR_.out) (by decide)
            ·
             rw [if_neg c37] at H
             have c37b0 : decide ((rd y306 x62_3) < 0) = false := decide_eq_false c37
             clear c37
             by_cases c38 : (rd y306 x62_3) ≥ (x6_3.length : Int)
             ·
              rw [if_pos c38] at H
              have c38b0 : decide ((x6_3.length : Int) ≤ (rd y306 x62_3)) = true := decide_eq_true c38
              clear c38
              exact absurd ((Option.some.inj H).trans HR_.out) (by decide)
             ·
              rw [if_neg c38] at H
              have c38b0 : decide ((x6_3.length : Int) ≤ (rd y306 x62_3)) = false := decide_eq_false c38
              clear c38
              by_cases c39 : 0 ≤ (rd y306 x62_3)
              rotate_left
              ·
               rw [if_neg c39] at H
               exact absurd H (by simp)
              rw [if_pos c39] at H
              have c39b0 : decide (0 ≤ (rd y306 x62_3)) = true := decide_eq_true c39
              clear c39
              by_cases c40 : (rd y306 x62_3) < (x6_3.length : Int)
              rotate_left
              ·
               rw [if_neg c40] at H
               exact absurd H (by simp)
              rw [if_pos c40] at H
              have c40b0 : decide ((rd y306 x62_3) < (x6_3.length : Int)) = true := decide_eq_true c40
              clear c40
              obtain ⟨bq41, hbq41⟩ : ∃ b_ : Bool, b_ = (rdOf false x6_3 (rd y306 x62_3)) := ⟨_, rfl⟩
              replace H : (if bq41 = true then (some false) else (compasslaw04_WalkNests.l1 k3 t294 t297 (x6_3.set ((rd y306 x62_3) : Int).toNat true) x49_2 (t294.length : Int) x49_2 y306 (y306.length : Int) (wrap64 (x62_3 + 1)) a0_0 l0_1)) = some r := by rw [← hbq41] at H; exact H
              have Nbq41 := ak hbq41
              clear hbq41
              by_cases c42 : bq41 = true
              ·
               subst c42
               have H1 : (some false) = some r := by rw [if_pos rfl] at H; exact H
               clear H
               have H := H1
               clear H1
               exact absurd ((Option.some.inj H).trans HR_.out) (by decide)
              ·
               replace c42 := Bool.eq_false_iff.mpr c42
               subst c42
               have H1 : (compasslaw04_WalkNests.l1 k3 t294 t297 (x6_3.set ((rd y306 x62_3) : Int).toNat true) x49_2 (t294.length : Int) x49_2 y306 (y306.length : Int) (wrap64 (x62_3 + 1)) a0_0 l0_1) = some r := by rw [if_neg (show ¬ (false = true) by decide)] at H; exact H
               clear H
               have H := H1
               clear H1
               obtain ⟨y311, hy311⟩ : ∃ y_ : List Bool, y_ = (x6_3.set ((rd y306 x62_3) : Int).toNat true) := ⟨_, rfl⟩
               replace H : (compasslaw04_WalkNests.l1 k3 t294 t297 y311 x49_2 (t294.length : Int) x49_2 y306 (y306.length : Int) (wrap64 (x62_3 + 1)) a0_0 l0_1) = some r := by first | (rw [hy311]; exact H) | exact H
               have Ny311 := ak hy311
               clear hy311
               have H' := ak H
               clear H
               have p309 : 0 ≤ (x62_3 : Int) := oda
               have q309 : x62_3 < (y306.length : Int) := oda
               obtain ⟨ad309, e309, hx309_0⟩ := Kd.at_int (Kd.R_reads' HO_60.out).2.2 x62_3 p309 q309
               cases e309
               replace p309 := eq_true p309
               replace q309 := eq_true q309
               obtain ⟨Ao44, co44, eo44⟩ := Kd.R_slice HO_6.out
               subst eo44
               have p310 : 0 ≤ ((rd y306 x62_3) : Int) := oda
               have q310 : (rd y306 x62_3) < (x6_3.length : Int) := oda
               obtain ⟨ad310, e310, hx310_0⟩ := Kd.at_bool (Kd.R_reads' HO_6.out).2.2 (rd y306 x62_3) p310 q310
               (try rw [← Nbq41.out] at hx310_0)
               cases e310
               replace p310 := eq_true p310
               replace q310 := eq_true q310
               have p43 : 0 ≤ ((rd y306 x62_3) : Int) := oda
               have q43 : ((rd y306 x62_3) : Int) < ((x6_3.length : Int) : Int) := oda
               obtain ⟨go43, co43, eo43, gb43, gl43, cl43, HG43⟩ := Kd.R_form HO_6.out (by omega)
               (first | cases eo43 | (injection eo43 with ea_ en_ ec_; (first | subst ea_ | (injection ea_ with ea_; subst ea_)); subst ec_; clear en_))
               have GB43 := ak gb43
               have GG43 := ak HG43
               clear gb43 gl43 HG43
               (first | simp only [add_plain] at hx310_0 | skip)
               obtain ⟨hx43_0, hf43_0⟩ := Kd.R_celln false HO_6.out ((rd y306 x62_3) : Int) p43 q43
               replace p43 := eq_true p43
               replace q43 := eq_true q43
               have HP45 := Kd.R_putg HO_6.out ((rd y306 x62_3) : Int) true
               go_wp2_with (first | ((with_reducible refine gate_store (t := 4) (p := 82) rfl ?_); refine store_event (t := 4) (p := 82) (v := ?vo_w46) (w1 := (wr.setCell ⟨go43, ((rd y306 x62_3) : Int).toNat, none⟩ (.bool true))) ?hg ?ho ?hn ?hr ?_; (case ho => rfl); (case hg => rfl); (case hn => rfl); (case hr => first | (go_simp; done) | (go_simp; rfl)); intro w46 hw; have hg : wr.grownBy w46 (some go43) := (by rw [hw]; exact HP45.2); have hp_ : Kd.R Kd.bool 4 w46 w.heap.size (fun _ => True) (.slice (some ⟨go43, 0, none⟩) x6_3.length co44) y311 := (by rw [hw, Ny311.out]; exact HP45.1); clear HP45; have n0_ := ak (Kd.R_over' (v := (.slice (some ⟨go43, 0, none⟩) x6_3.length co44)) (rx HO_3.out) (Kd.R_typed HO_6.out) (by decide) hg); have n1_ := ak (Kd.R_over' (v := (.slice (some ⟨go43, 0, none⟩) x6_3.length co44)) (rx HO_4.out) (Kd.R_typed HO_6.out) (by decide) hg); have n2_ := ak (hp_); have n3_ := ak (Kd.R_over' (v := (.slice (some ⟨go43, 0, none⟩) x6_3.length co44)) (rx HO_60.out) (Kd.R_typed HO_6.out) (by decide) hg); have n4_ := ak (blk_grown (bx BK292.out) hg (Kd.R_ne HO_6.out BK292.out (by decide))); have n5_ := ak ((by rw [hw]; exact below_set (HB.out) GB43.out : Below w.heap.size w w46)); clear HO_3; clear HO_4; clear HO_6; clear HO_60; clear BK292; clear HB; have HO_3 := n0_; have HO_4 := n1_; have HO_6 := n2_; have HO_60 := n3_; have BK292 := n4_; have HB := n5_; clear n0_ n1_ n2_ n3_ n4_ n5_; clear hg hw hp_))
               go_roundg k3
               case measure => have := HJ5.out; have := HK2.out; have := HK3.out; omega
               case rel => exact ⟨(y311), (wrap64 (x62_3 + 1)), (by first | rfl | (simp [*]; done)), H', ⟨by have := HJ5.out; have := HK2.out; have := HK3.out; omega⟩, ⟨rx HO_3.out⟩, ⟨rx HO_4.out⟩, ⟨rx HO_6.out⟩, ⟨rx HO_60.out⟩, ⟨bx BK292.out⟩, ⟨lb⟩⟩
           ·
            rw [if_neg c34] at H
            have c34b0 : decide (x62_3 < (y306.length : Int)) = false := decide_eq_false c34
            clear c34
            by_cases c47 : 0 ≤ x49_2
            rotate_left
            ·
             rw [if_neg c47] at H
             exact absurd H (by simp)
            rw [if_pos c47] at H
            have c47b0 : decide (0 ≤ x49_2) = true := decide_eq_true c47
            clear c47
            by_cases c48 : x49_2 < (t294.length : Int)
            rotate_left
            ·
             rw [if_neg c48] at H
             exact absurd H (by simp)
            rw [if_pos c48] at H
            have c48b0 : decide (x49_2 < (t294.length : Int)) = true := decide_eq_true c48
            clear c48
            by_cases c49 : x49_2 < (t297.length : Int)
            rotate_left
            ·
             rw [if_neg c49] at H
             exact absurd H (by simp)
            rw [if_pos c49] at H
            have c49b0 : decide (x49_2 < (t297.length : Int)) = true := decide_eq_true c49
            clear c49
            by_cases c50 : (rd t294 x49_2) ≥ (rd t297 x49_2)
            ·
             rw [if_pos c50] at H
             have c50b0 : decide ((rd t297 x49_2) ≤ (rd t294 x49_2)) = true := decide_eq_true c50
             clear c50
             exact absurd ((Option.some.inj H).trans HR_.out) (by decide)
            ·
             rw [if_neg c50] at H
             have c50b0 : decide ((rd t297 x49_2) ≤ (rd t294 x49_2)) = false := decide_eq_false c50
             clear c50
             have H' := ak H
             clear H
             try go_wp2
             have n0_ := ak (Kd.R_drew HO_3.out)
             have n1_ := ak (Kd.R_drew HO_4.out)
             have n2_ := ak (Kd.R_drew HO_6.out)
             have n3_ := ak (Kd.R_drew HO_60.out)
             have n4_ := ak (blk_drew BK292.out)
             have n5_ := ak (below_drew1 HB.out)
             clear HO_3
             clear HO_4
             clear HO_6
             clear HO_60
             clear BK292
             clear HB
             have HO_3 := n0_
             have HO_4 := n1_
             have HO_6 := n2_
             have HO_60 := n3_
             have BK292 := n4_
             have HB := n5_
             clear n0_ n1_ n2_ n3_ n4_ n5_
             have p312 : 0 ≤ (x49_2 : Int) := oda
             have q312 : x49_2 < (t294.length : Int) := oda
             obtain ⟨ad312, e312, hx312_0⟩ := Kd.at_int (Kd.R_reads' HO_3.out).2.2 x49_2 p312 q312
             obtain rfl : ad304 = ad312 := (by injection e312)
             replace p312 := eq_true p312
             replace q312 := eq_true q312
             have p313 : 0 ≤ (x49_2 : Int) := oda
             have q313 : x49_2 < (t297.length : Int) := oda
             obtain ⟨ad313, e313, hx313_0⟩ := Kd.at_int (Kd.R_reads' HO_4.out).2.2 x49_2 p313 q313
             obtain rfl : ad305 = ad313 := (by injection e313)
             replace p313 := eq_true p313
             replace q313 := eq_true q313
             refine start_ (n := 9) (S := fun w' => w'.cell? (ad304.add (x49_2).toNat) = some (.int .i64 (rd t294 x49_2)) ∧ w'.cell? (ad305.add (x49_2).toNat) = some (.int .i64 (rd t297 x49_2))) (ds := []) #[false, false, false, false, false, false, false, false, false] (by kernel_rfl) rfl rfl ⟨hx312_0, hx313_0⟩ (fun hHeld => ?_); refine with_tabW compasslaw04_WalkNests.tab19 compasslaw04_WalkNests.bits19 (fun HT_ HW_ => ?_)
             generalize wr.drew = w51 at HO_3 HO_4 HO_6 HO_60 BK292 HB hx312_0 hx313_0 hHeld ⊢
             refine pure_ (i := 0) (N := some 84) (v := ?_) (a' := ?_) #[true, false, false, false, false, false, false, false, false] rfl rfl (any_of HT_.out (by kernel_rfl)) (fun _ _ _ h => h) (Or.inl ⟨by rfl, ?_⟩) ?_ ?_; rotate_left; intro w'; go_simp; with_reducible rfl; rotate_left; simp only [Act.put, List.setIfInBounds_toArray, List.set_cons_zero, List.set_cons_succ, i64_w, i32_w]; rfl
             refine pure_ (i := 1) (N := some 85) (v := ?_) (a' := ?_) #[true, true, false, false, false, false, false, false, false] rfl rfl (any_of HT_.out (by kernel_rfl)) (fun _ _ _ h => h) (Or.inl ⟨by rfl, ?_⟩) ?_ ?_; rotate_left; intro w'; go_simp; with_reducible rfl; rotate_left; simp only [Act.put, List.setIfInBounds_toArray, List.set_cons_zero, List.set_cons_succ, i64_w, i32_w]; rfl
             refine pure_ (i := 2) (N := some 86) (v := ?_) (a' := ?_) #[true, true, true, false, false, false, false, false, false] rfl rfl (any_of HT_.out (by kernel_rfl)) (fun _ _ _ h => h) (Or.inl ⟨by rfl, ?_⟩) ?_ ?_; rotate_left; intro w'; go_simp; with_reducible rfl; rotate_left; simp only [Act.put, List.setIfInBounds_toArray, List.set_cons_zero, List.set_cons_succ, i64_w, i32_w]; rfl
             refine pure_ (i := 4) (N := some 88) (v := ?_) (a' := ?_) #[true, true, true, false, true, false, false, false, false] rfl rfl (any_of HT_.out (by kernel_rfl)) (fun _ _ _ h => h) (Or.inl ⟨by rfl, ?_⟩) ?_ ?_; rotate_left; intro w'; go_simp; with_reducible rfl; rotate_left; simp only [Act.put, List.setIfInBounds_toArray, List.set_cons_zero, List.set_cons_succ, i64_w, i32_w]; rfl
             refine pure_ (i := 5) (N := some 89) (v := ?_) (a' := ?_) #[true, true, true, false, true, true, false, false, false] rfl rfl (any_of HT_.out (by kernel_rfl)) (fun _ _ _ h => h) (Or.inl ⟨by rfl, ?_⟩) ?_ ?_; rotate_left; intro w'; go_simp; with_reducible rfl; rotate_left; simp only [Act.put, List.setIfInBounds_toArray, List.set_cons_zero, List.set_cons_succ, i64_w, i32_w]; rfl
             refine pure_ (i := 6) (N := some 90) (v := ?_) (a' := ?_) #[true, true, true, false, true, true, true, false, false] rfl rfl (any_of HT_.out (by kernel_rfl)) (fun _ _ _ h => h) (Or.inl ⟨by rfl, ?_⟩) ?_ ?_; rotate_left; intro w'; go_simp; with_reducible rfl; rotate_left; simp only [Act.put, List.setIfInBounds_toArray, List.set_cons_zero, List.set_cons_succ, i64_w, i32_w]; rfl
             refine take_ (i := 3) (N := some 87) (v := ?_) (a' := ?_) #[true, true, true, true, true, true, true, false, false] rfl rfl (take_ofW HT_.out HW_.out (by kernel_rfl)) (fun _ _ _ h => h) (Or.inl ⟨by rfl, ?_⟩) hHeld ?_ ?_; rotate_left; rintro w' ⟨s0, s1⟩; go_simp; with_reducible rfl; rotate_left; simp only [Act.put, List.setIfInBounds_toArray, List.set_cons_zero, List.set_cons_succ, i64_w, i32_w]; rfl
             refine take_ (i := 7) (N := some 91) (v := ?_) (a' := ?_) #[true, true, true, true, true, true, true, true, false] rfl rfl (take_ofW HT_.out HW_.out (by kernel_rfl)) (fun _ _ _ h => h) (Or.inl ⟨by rfl, ?_⟩) hHeld ?_ ?_; rotate_left; rintro w' ⟨s0, s1⟩; go_simp; with_reducible rfl; rotate_left; simp only [Act.put, List.setIfInBounds_toArray, List.set_cons_zero, List.set_cons_succ, i64_w, i32_w]; rfl
             refine pure_ (i := 8) (N := some 92) (v := ?_) (a' := ?_) #[true, true, true, true, true, true, true, true, true] rfl rfl (any_of HT_.out (by kernel_rfl)) (fun _ _ _ h => h) (Or.inl ⟨by rfl, ?_⟩) ?_ ?_; rotate_left; intro w'; go_simp; with_reducible rfl; rotate_left; simp only [Act.put, List.setIfInBounds_toArray, List.set_cons_zero, List.set_cons_succ, i64_w, i32_w]; rfl
             refine done_ (done_of HT_.out (by kernel_rfl)) ?_
             try go_wp2
             go_loopg [95] k3 (fun kq v95 w' => ∃ (x95_4 : Int), v95 = .int .i64 x95_4 ∧ Aside0 (compasslaw04_WalkNests.l2 kq t294 t297 x6_3 x49_2 (t294.length : Int) x49_2 (t294.length : Int) x95_4 a0_0 l0_1 = some r) ∧ Aside0 (kq ≤ k3) ∧ Aside0 (Kd.R (Kd.int .i64) 3 w' w.heap.size (fun k_ => some k_ ≠ ((.slice (some ad305) t297.length co30) : Value).ownBlock) (.slice (some ad304) t294.length co24) t294) ∧ Aside0 (Kd.R (Kd.int .i64) 3 w' w.heap.size (fun k_ => some k_ ≠ ((.slice (some ad304) t294.length co24) : Value).ownBlock) (.slice (some ad305) t297.length co30) t297) ∧ Aside0 (Kd.R Kd.bool 4 w' w.heap.size (fun _ => True) v302 x6_3) ∧ Aside0 (w'.heap[gb292]? = some (.cells #[.int .i64 a0_0, (.slice A0_1 l0_1.length c0_1)] 24 (0, 0))) ∧ Aside0 (Below w.heap.size w w'))
             case atStart => exact ⟨(0), (by first | rfl | (simp [*]; done)), H', ⟨Nat.le_refl _⟩, ⟨by exact rx (Kd.R_mono HO_3.out (fun _ hk => hk.1))⟩, ⟨by exact rx (Kd.R_mono HO_4.out (fun _ hk => hk.1))⟩, ⟨rx HO_6.out⟩, ⟨bx BK292.out⟩, ⟨lb⟩⟩
             case round =>
              clear H'
              try clear c1; try clear c2; try clear p2; try clear c3; try clear p3; try clear q3; try clear hx3; try clear c4; try clear p4; try clear q4; try clear hx4; try clear hf4; try clear c5; try clear c5b0; try clear c5b1; try clear p6; try clear c8; try clear c11; try clear c11b0; try clear c11b1; try clear c12; try clear c17; try clear c19; try clear c19b0; try clear c19b1; try clear c20; try clear c20b0; try clear c20b1; try clear c25; try clear c25b0; try clear c26; try clear c26b0; try clear c27; try clear c27b0; try clear c28; try clear c28b0; try clear p30; try clear q30; try clear hx30; try clear p31; try clear q31; try clear hx31; try clear c34; try clear c34b0; try clear c35; try clear c35b0; try clear c36; try clear c36b0; try clear c37; try clear c37b0; try clear c38; try clear c38b0; try clear c39; try clear c39b0; try clear c40; try clear c40b0; try clear q41; try clear c42; try clear p43; try clear q43; try clear hx43; try clear hf43; try clear c47; try clear c47b0; try clear c48; try clear c48b0; try clear c49; try clear c49b0; try clear c50; try clear c50b0; try clear hcz13_0; try clear hcz13_1; try clear hcz16_0; try clear hcz16_1; try clear hcz21_0; try clear hcz21_1; try clear hcz9_0; try clear hcz9_1; try clear hfz13_0; try clear hfz13_1; try clear hfz16_0; try clear hfz16_1; try clear hfz21_0; try clear hfz21_1; try clear hfz9_0; try clear hfz9_1; try clear hx304_0; try clear hx305_0; try clear hx309_0; try clear hx310_0; try clear hx312_0; try clear hx313_0; try clear hx43_0; try clear p2; try clear p3; try clear p30; try clear p304; try clear p305; try clear p309; try clear p310; try clear p312; try clear p313; try clear p43; try clear p6; try clear q3; try clear q30; try clear q304; try clear q305; try clear q309; try clear q310; try clear q312; try clear q313; try clear q43
              obtain ⟨x95_4, rfl, HA, HK4, HO_3, HO_4, HO_6, BK292, HB⟩ := hrel
              cases gk with
              | zero => exact absurd HA.out (by simp [compasslaw04_WalkNests.l2])
              | succ k4 =>
               have H := HA.out
               clear HA
               simp only [compasslaw04_WalkNests.l2] at H
               by_cases c52 : x95_4 < (t294.length : Int)
               ·
                rw [if_pos c52] at H
                have c52b0 : decide (x95_4 < (t294.length : Int)) = true := decide_eq_true c52
                clear c52
                by_cases c53 : 0 ≤ x95_4
                rotate_left
                ·
                 rw [if_neg c53] at H
                 exact absurd H (by simp)
                rw [if_pos c53] at H
                have c53b0 : decide (0 ≤ x95_4) = true := decide_eq_true c53
                clear c53
                by_cases c54 : x95_4 < (t294.length : Int)
                rotate_left
                ·
                 rw [if_neg c54] at H
                 exact absurd H (by simp)
                rw [if_pos c54] at H
                have c54b0 : decide (x95_4 < (t294.length : Int)) = true := decide_eq_true c54
                clear c54
                by_cases c55 : 0 ≤ x49_2
                rotate_left
                ·
                 rw [if_neg c55] at H
                 exact absurd H (by simp)
                rw [if_pos c55] at H
                have c55b0 : decide (0 ≤ x49_2) = true := decide_eq_true c55
                clear c55
                by_cases c56 : x49_2 < (t294.length : Int)
                rotate_left
                ·
                 rw [if_neg c56] at H
                 exact absurd H (by simp)
                rw [if_pos c56] at H
                have c56b0 : decide (x49_2 < (t294.length : Int)) = true := decide_eq_true c56
                clear c56
                by_cases c57 : (rd t294 x95_4) < (rd t294 x49_2)
                ·
                 rw [if_pos c57] at H
                 have c57b0 : decide ((rd t294 x95_4) < (rd t294 x49_2)) = true := decide_eq_true c57
                 clear c57
                 by_cases c58 : x95_4 < (t297.length : Int)
                 rotate_left
                 ·
                  rw [if_neg c58] at H
                  exact absurd H (by simp)
                 rw [if_pos c58] at H
                 have c58b0 : decide (x95_4 < (t297.length : Int)) = true := decide_eq_true c58
                 clear c58
                 by_cases c59 : (rd t294 x49_2) < (rd t297 x95_4)
                 ·
                  rw [if_pos c59] at H
                  have c59b0 : decide ((rd t294 x49_2) < (rd t297 x95_4)) = true := decide_eq_true c59
                  clear c59
                  by_cases c60 : x49_2 < (t297.length : Int)
                  rotate_left
                  ·
                   rw [if_neg c60] at H
                   exact absurd H (by simp)
                  rw [if_pos c60] at H
                  have c60b0 : decide (x49_2 < (t297.length : Int)) = true := decide_eq_true c60
                  clear c60
                  by_cases c61 : (rd t297 x49_2) > (rd t297 x95_4)
                  ·
                   rw [if_pos c61] at H
                   have c61b0 : decide ((rd t297 x95_4) < (rd t297 x49_2)) = true := decide_eq_true c61
                   clear c61
                   exact absurd ((Option.some.inj H).trans HR_.out) (by decide)
                  ·
                   rw [if_neg c61] at H
                   have c61b0 : decide ((rd t297 x95_4) < (rd t297 x49_2)) = false := decide_eq_false c61
                   clear c61
                   have H' := ak H
                   clear H
                   try go_wp2
                   have n0_ := ak (Kd.R_drew HO_3.out)
                   have n1_ := ak (Kd.R_drew HO_4.out)
                   have n2_ := ak (Kd.R_drew HO_6.out)
                   have n3_ := ak (blk_drew BK292.out)
                   have n4_ := ak (below_drew1 HB.out)
                   clear HO_3
                   clear HO_4
                   clear HO_6
                   clear BK292
                   clear HB
                   have HO_3 := n0_
                   have HO_4 := n1_
                   have HO_6 := n2_
                   have BK292 := n3_
                   have HB := n4_
                   clear n0_ n1_ n2_ n3_ n4_
                   have p314 : 0 ≤ (x95_4 : Int) := oda
                   have q314 : x95_4 < (t294.length : Int) := oda
                   obtain ⟨ad314, e314, hx314_0⟩ := Kd.at_int (Kd.R_reads' HO_3.out).2.2 x95_4 p314 q314
                   obtain rfl : ad304 = ad314 := (by injection e314)
                   replace p314 := eq_true p314
                   replace q314 := eq_true q314
                   have p315 : 0 ≤ (x49_2 : Int) := oda
                   have q315 : x49_2 < (t294.length : Int) := oda
                   obtain ⟨ad315, e315, hx315_0⟩ := Kd.at_int (Kd.R_reads' HO_3.out).2.2 x49_2 p315 q315
                   obtain rfl : ad304 = ad315 := (by injection e315)
                   replace p315 := eq_true p315
                   replace q315 := eq_true q315
                   have p316 : 0 ≤ (x49_2 : Int) := oda
                   have q316 : x49_2 < (t294.length : Int) := oda
                   obtain ⟨ad316, e316, hx316_0⟩ := Kd.at_int (Kd.R_reads' HO_3.out).2.2 x49_2 p316 q316
                   obtain rfl : ad304 = ad316 := (by injection e316)
                   replace p316 := eq_true p316
                   replace q316 := eq_true q316
                   have p317 : 0 ≤ (x95_4 : Int) := oda
                   have q317 : x95_4 < (t297.length : Int) := oda
                   obtain ⟨ad317, e317, hx317_0⟩ := Kd.at_int (Kd.R_reads' HO_4.out).2.2 x95_4 p317 q317
                   obtain rfl : ad305 = ad317 := (by injection e317)
                   replace p317 := eq_true p317
                   replace q317 := eq_true q317
                   have p318 : 0 ≤ (x49_2 : Int) := oda
                   have q318 : x49_2 < (t297.length : Int) := oda
                   obtain ⟨ad318, e318, hx318_0⟩ := Kd.at_int (Kd.R_reads' HO_4.out).2.2 x49_2 p318 q318
                   obtain rfl : ad305 = ad318 := (by injection e318)
                   replace p318 := eq_true p318
                   replace q318 := eq_true q318
                   have p319 : 0 ≤ (x95_4 : Int) := oda
                   have q319 : x95_4 < (t297.length : Int) := oda
                   obtain ⟨ad319, e319, hx319_0⟩ := Kd.at_int (Kd.R_reads' HO_4.out).2.2 x95_4 p319 q319
                   obtain rfl : ad305 = ad319 := (by injection e319)
                   replace p319 := eq_true p319
                   replace q319 := eq_true q319
                   refine start_ (n := 31) (S := fun w' => w'.cell? (ad304.add (x95_4).toNat) = some (.int .i64 (rd t294 x95_4)) ∧ w'.cell? (ad304.add (x49_2).toNat) = some (.int .i64 (rd t294 x49_2)) ∧ w'.cell? (ad304.add (x49_2).toNat) = some (.int .i64 (rd t294 x49_2)) ∧ w'.cell? (ad305.add (x95_4).toNat) = some (.int .i64 (rd t297 x95_4)) ∧ w'.cell? (ad305.add (x49_2).toNat) = some (.int .i64 (rd t297 x49_2)) ∧ w'.cell? (ad305.add (x95_4).toNat) = some (.int .i64 (rd t297 x95_4))) (ds := []) #[false, false, false, false, false, false, false, false, false, false, false, false, false, false, false, false, false, false, false, false, false, false, false, false, false, false, false, false, false, false, false] (by kernel_rfl) rfl rfl ⟨hx314_0, hx315_0, hx316_0, hx317_0, hx318_0, hx319_0⟩ (fun hHeld => ?_); refine with_tabW compasslaw04_WalkNests.tab24 compasslaw04_WalkNests.bits24 (fun HT_ HW_ => ?_)
                   generalize wr.drew = w62 at HO_3 HO_4 HO_6 BK292 HB hx314_0 hx315_0 hx316_0 hx317_0 hx318_0 hx319_0 hHeld ⊢
                   refine pure_ (i := 0) (N := some 98) (v := ?_) (a' := ?_) #[true, false, false, false, false, false, false, false, false, false, false, false, false, false, false, false, false, false, false, false, false, false, false, false, false, false, false, false, false, false, false] rfl rfl (any_of HT_.out (by kernel_rfl)) (fun _ _ _ h => h) (Or.inl ⟨by rfl, ?_⟩) ?_ ?_; rotate_left; intro w'; go_simp; with_reducible rfl; rotate_left; simp only [Act.put, List.setIfInBounds_toArray, List.set_cons_zero, List.set_cons_succ, i64_w, i32_w]; rfl
                   refine pure_ (i := 1) (N := some 99) (v := ?_) (a' := ?_) #[true, true, false, false, false, false, false, false, false, false, false, false, false, false, false, false, false, false, false, false, false, false, false, false, false, false, false, false, false, false, false] rfl rfl (any_of HT_.out (by kernel_rfl)) (fun _ _ _ h => h) (Or.inl ⟨by rfl, ?_⟩) ?_ ?_; rotate_left; intro w'; go_simp; with_reducible rfl; rotate_left; simp only [Act.put, List.setIfInBounds_toArray, List.set_cons_zero, List.set_cons_succ, i64_w, i32_w]; rfl
                   refine pure_ (i := 2) (N := some 100) (v := ?_) (a' := ?_) #[true, true, true, false, false, false, false, false, false, false, false, false, false, false, false, false, false, false, false, false, false, false, false, false, false, false, false, false, false, false, false] rfl rfl (any_of HT_.out (by kernel_rfl)) (fun _ _ _ h => h) (Or.inl ⟨by rfl, ?_⟩) ?_ ?_; rotate_left; intro w'; go_simp; with_reducible rfl; rotate_left; simp only [Act.put, List.setIfInBounds_toArray, List.set_cons_zero, List.set_cons_succ, i64_w, i32_w]; rfl
                   refine pure_ (i := 4) (N := some 102) (v := ?_) (a' := ?_) #[true, true, true, false, true, false, false, false, false, false, false, false, false, false, false, false, false, false, false, false, false, false, false, false, false, false, false, false, false, false, false] rfl rfl (any_of HT_.out (by kernel_rfl)) (fun _ _ _ h => h) (Or.inl ⟨by rfl, ?_⟩) ?_ ?_; rotate_left; intro w'; go_simp; with_reducible rfl; rotate_left; simp only [Act.put, List.setIfInBounds_toArray, List.set_cons_zero, List.set_cons_succ, i64_w, i32_w]; rfl
                   refine pure_ (i := 5) (N := some 103) (v := ?_) (a' := ?_) #[true, true, true, false, true, true, false, false, false, false, false, false, false, false, false, false, false, false, false, false, false, false, false, false, false, false, false, false, false, false, false] rfl rfl (any_of HT_.out (by kernel_rfl)) (fun _ _ _ h => h) (Or.inl ⟨by rfl, ?_⟩) ?_ ?_; rotate_left; intro w'; go_simp; with_reducible rfl; rotate_left; simp only [Act.put, List.setIfInBounds_toArray, List.set_cons_zero, List.set_cons_succ, i64_w, i32_w]; rfl
                   refine pure_ (i := 6) (N := some 104) (v := ?_) (a' := ?_) #[true, true, true, false, true, true, true, false, false, false, false, false, false, false, false, false, false, false, false, false, false, false, false, false, false, false, false, false, false, false, false] rfl rfl (any_of HT_.out (by kernel_rfl)) (fun _ _ _ h => h) (Or.inl ⟨by rfl, ?_⟩) ?_ ?_; rotate_left; intro w'; go_simp; with_reducible rfl; rotate_left; simp only [Act.put, List.setIfInBounds_toArray, List.set_cons_zero, List.set_cons_succ, i64_w, i32_w]; rfl
                   refine take_ (i := 3) (N := some 101) (v := ?_) (a' := ?_) #[true, true, true, true, true, true, true, false, false, false, false, false, false, false, false, false, false, false, false, false, false, false, false, false, false, false, false, false, false, false, false] rfl rfl (take_ofW HT_.out HW_.out (by kernel_rfl)) (fun _ _ _ h => h) (Or.inl ⟨by rfl, ?_⟩) hHeld ?_ ?_; rotate_left; rintro w' ⟨s0, s1, s2, s3, s4, s5⟩; go_simp; with_reducible rfl; rotate_left; simp only [Act.put, List.setIfInBounds_toArray, List.set_cons_zero, List.set_cons_succ, i64_w, i32_w]; rfl
                   refine take_ (i := 7) (N := some 105) (v := ?_) (a' := ?_) #[true, true, true, true, true, true, true, true, false, false, false, false, false, false, false, false, false, false, false, false, false, false, false, false, false, false, false, false, false, false, false] rfl rfl (take_ofW HT_.out HW_.out (by kernel_rfl)) (fun _ _ _ h => h) (Or.inl ⟨by rfl, ?_⟩) hHeld ?_ ?_; rotate_left; rintro w' ⟨s0, s1, s2, s3, s4, s5⟩; go_simp; with_reducible rfl; rotate_left; simp only [Act.put, List.setIfInBounds_toArray, List.set_cons_zero, List.set_cons_succ, i64_w, i32_w]; rfl
                   refine pure_ (i := 8) (N := some 106) (v := ?_) (a' := ?_) #[true, true, true, true, true, true, true, true, true, false, false, false, false, false, false, false, false, false, false, false, false, false, false, false, false, false, false, false, false, false, false] rfl rfl (any_of HT_.out (by kernel_rfl)) (fun _ _ _ h => h) (Or.inl ⟨by rfl, ?_⟩) ?_ ?_; rotate_left; intro w'; go_simp; with_reducible rfl; rotate_left; simp only [Act.put, List.setIfInBounds_toArray, List.set_cons_zero, List.set_cons_succ, i64_w, i32_w]; rfl
                   refine pure_ (i := 9) (N := some 107) (v := ?_) (a' := ?_) #[true, true, true, true, true, true, true, true, true, true, false, false, false, false, false, false, false, false, false, false, false, false, false, false, false, false, false, false, false, false, false] rfl rfl (any_of HT_.out (by kernel_rfl)) (fun _ _ _ h => h) (Or.inl ⟨by rfl, ?_⟩) ?_ ?_; rotate_left; intro w'; go_simp; with_reducible rfl; rotate_left; simp only [Act.put, List.setIfInBounds_toArray, List.set_cons_zero, List.set_cons_succ, i64_w, i32_w]; rfl
                   refine pure_ (i := 10) (N := some 108) (v := ?_) (a' := ?_) #[true, true, true, true, true, true, true, true, true, true, true, false, false, false, false, false, false, false, false, false, false, false, false, false, false, false, false, false, false, false, false] rfl rfl (any_of HT_.out (by kernel_rfl)) (fun _ _ _ h => h) (Or.inl ⟨by rfl, ?_⟩) ?_ ?_; rotate_left; intro w'; go_simp; with_reducible rfl; rotate_left; simp only [Act.put, List.setIfInBounds_toArray, List.set_cons_zero, List.set_cons_succ, i64_w, i32_w]; rfl
                   refine pure_ (i := 11) (N := some 109) (v := ?_) (a' := ?_) #[true, true, true, true, true, true, true, true, true, true, true, true, false, false, false, false, false, false, false, false, false, false, false, false, false, false, false, false, false, false, false] rfl rfl (any_of HT_.out (by kernel_rfl)) (fun _ _ _ h => h) (Or.inl ⟨by rfl, ?_⟩) ?_ ?_; rotate_left; intro w'; go_simp; with_reducible rfl; rotate_left; simp only [Act.put, List.setIfInBounds_toArray, List.set_cons_zero, List.set_cons_succ, i64_w, i32_w]; rfl
                   refine pure_ (i := 12) (N := some 110) (v := ?_) (a' := ?_) #[true, true, true, true, true, true, true, true, true, true, true, true, true, false, false, false, false, false, false, false, false, false, false, false, false, false, false, false, false, false, false] rfl rfl (any_of HT_.out (by kernel_rfl)) (fun _ _ _ h => h) (Or.inl ⟨by rfl, ?_⟩) ?_ ?_; rotate_left; intro w'; go_simp; with_reducible rfl; rotate_left; simp only [Act.put, List.setIfInBounds_toArray, List.set_cons_zero, List.set_cons_succ, i64_w, i32_w]; rfl
                   refine pure_ (i := 14) (N := some 112) (v := ?_) (a' := ?_) #[true, true, true, true, true, true, true, true, true, true, true, true, true, false, true, false, false, false, false, false, false, false, false, false, false, false, false, false, false, false, false] rfl rfl (any_of HT_.out (by kernel_rfl)) (fun _ _ _ h => h) (Or.inl ⟨by rfl, ?_⟩) ?_ ?_; rotate_left; intro w'; go_simp; with_reducible rfl; rotate_left; simp only [Act.put, List.setIfInBounds_toArray, List.set_cons_zero, List.set_cons_succ, i64_w, i32_w]; rfl
                   refine pure_ (i := 15) (N := some 113) (v := ?_) (a' := ?_) #[true, true, true, true, true, true, true, true, true, true, true, true, true, false, true, true, false, false, false, false, false, false, false, false, false, false, false, false, false, false, false] rfl rfl (any_of HT_.out (by kernel_rfl)) (fun _ _ _ h => h) (Or.inl ⟨by rfl, ?_⟩) ?_ ?_; rotate_left; intro w'; go_simp; with_reducible rfl; rotate_left; simp only [Act.put, List.setIfInBounds_toArray, List.set_cons_zero, List.set_cons_succ, i64_w, i32_w]; rfl
                   refine pure_ (i := 16) (N := some 114) (v := ?_) (a' := ?_) #[true, true, true, true, true, true, true, true, true, true, true, true, true, false, true, true, true, false, false, false, false, false, false, false, false, false, false, false, false, false, false] rfl rfl (any_of HT_.out (by kernel_rfl)) (fun _ _ _ h => h) (Or.inl ⟨by rfl, ?_⟩) ?_ ?_; rotate_left; intro w'; go_simp; with_reducible rfl; rotate_left; simp only [Act.put, List.setIfInBounds_toArray, List.set_cons_zero, List.set_cons_succ, i64_w, i32_w]; rfl
                   refine take_ (i := 13) (N := some 111) (v := ?_) (a' := ?_) #[true, true, true, true, true, true, true, true, true, true, true, true, true, true, true, true, true, false, false, false, false, false, false, false, false, false, false, false, false, false, false] rfl rfl (take_ofW HT_.out HW_.out (by kernel_rfl)) (fun _ _ _ h => h) (Or.inl ⟨by rfl, ?_⟩) hHeld ?_ ?_; rotate_left; rintro w' ⟨s0, s1, s2, s3, s4, s5⟩; go_simp; with_reducible rfl; rotate_left; simp only [Act.put, List.setIfInBounds_toArray, List.set_cons_zero, List.set_cons_succ, i64_w, i32_w]; rfl
                   refine take_ (i := 17) (N := some 115) (v := ?_) (a' := ?_) #[true, true, true, true, true, true, true, true, true, true, true, true, true, true, true, true, true, true, false, false, false, false, false, false, false, false, false, false, false, false, false] rfl rfl (take_ofW HT_.out HW_.out (by kernel_rfl)) (fun _ _ _ h => h) (Or.inl ⟨by rfl, ?_⟩) hHeld ?_ ?_; rotate_left; rintro w' ⟨s0, s1, s2, s3, s4, s5⟩; go_simp; with_reducible rfl; rotate_left; simp only [Act.put, List.setIfInBounds_toArray, List.set_cons_zero, List.set_cons_succ, i64_w, i32_w]; rfl
                   refine pure_ (i := 18) (N := some 116) (v := ?_) (a' := ?_) #[true, true, true, true, true, true, true, true, true, true, true, true, true, true, true, true, true, true, true, false, false, false, false, false, false, false, false, false, false, false, false] rfl rfl (any_of HT_.out (by kernel_rfl)) (fun _ _ _ h => h) (Or.inl ⟨by rfl, ?_⟩) ?_ ?_; rotate_left; intro w'; go_simp; with_reducible rfl; rotate_left; simp only [Act.put, List.setIfInBounds_toArray, List.set_cons_zero, List.set_cons_succ, i64_w, i32_w]; rfl
                   refine pure_ (i := 19) (N := some 117) (v := ?_) (a' := ?_) #[true, true, true, true, true, true, true, true, true, true, true, true, true, true, true, true, true, true, true, true, false, false, false, false, false, false, false, false, false, false, false] rfl rfl (any_of HT_.out (by kernel_rfl)) (fun _ _ _ h => h) (Or.inl ⟨by rfl, ?_⟩) ?_ ?_; rotate_left; intro w'; go_simp; with_reducible rfl; rotate_left; simp only [Act.put, List.setIfInBounds_toArray, List.set_cons_zero, List.set_cons_succ, i64_w, i32_w]; rfl
                   refine pure_ (i := 20) (N := some 118) (v := ?_) (a' := ?_) #[true, true, true, true, true, true, true, true, true, true, true, true, true, true, true, true, true, true, true, true, true, false, false, false, false, false, false, false, false, false, false] rfl rfl (any_of HT_.out (by kernel_rfl)) (fun _ _ _ h => h) (Or.inl ⟨by rfl, ?_⟩) ?_ ?_; rotate_left; intro w'; go_simp; with_reducible rfl; rotate_left; simp only [Act.put, List.setIfInBounds_toArray, List.set_cons_zero, List.set_cons_succ, i64_w, i32_w]; rfl
                   refine pure_ (i := 21) (N := some 119) (v := ?_) (a' := ?_) #[true, true, true, true, true, true, true, true, true, true, true, true, true, true, true, true, true, true, true, true, true, true, false, false, false, false, false, false, false, false, false] rfl rfl (any_of HT_.out (by kernel_rfl)) (fun _ _ _ h => h) (Or.inl ⟨by rfl, ?_⟩) ?_ ?_; rotate_left; intro w'; go_simp; with_reducible rfl; rotate_left; simp only [Act.put, List.setIfInBounds_toArray, List.set_cons_zero, List.set_cons_succ, i64_w, i32_w]; rfl
                   refine pure_ (i := 22) (N := some 120) (v := ?_) (a' := ?_) #[true, true, true, true, true, true, true, true, true, true, true, true, true, true, true, true, true, true, true, true, true, true, true, false, false, false, false, false, false, false, false] rfl rfl (any_of HT_.out (by kernel_rfl)) (fun _ _ _ h => h) (Or.inl ⟨by rfl, ?_⟩) ?_ ?_; rotate_left; intro w'; go_simp; with_reducible rfl; rotate_left; simp only [Act.put, List.setIfInBounds_toArray, List.set_cons_zero, List.set_cons_succ, i64_w, i32_w]; rfl
                   refine pure_ (i := 23) (N := some 121) (v := ?_) (a' := ?_) #[true, true, true, true, true, true, true, true, true, true, true, true, true, true, true, true, true, true, true, true, true, true, true, true, false, false, false, false, false, false, false] rfl rfl (any_of HT_.out (by kernel_rfl)) (fun _ _ _ h => h) (Or.inl ⟨by rfl, ?_⟩) ?_ ?_; rotate_left; intro w'; go_simp; with_reducible rfl; rotate_left; simp only [Act.put, List.setIfInBounds_toArray, List.set_cons_zero, List.set_cons_succ, i64_w, i32_w]; rfl
                   refine pure_ (i := 25) (N := some 123) (v := ?_) (a' := ?_) #[true, true, true, true, true, true, true, true, true, true, true, true, true, true, true, true, true, true, true, true, true, true, true, true, false, true, false, false, false, false, false] rfl rfl (any_of HT_.out (by kernel_rfl)) (fun _ _ _ h => h) (Or.inl ⟨by rfl, ?_⟩) ?_ ?_; rotate_left; intro w'; go_simp; with_reducible rfl; rotate_left; simp only [Act.put, List.setIfInBounds_toArray, List.set_cons_zero, List.set_cons_succ, i64_w, i32_w]; rfl
                   refine pure_ (i := 26) (N := some 124) (v := ?_) (a' := ?_) #[true, true, true, true, true, true, true, true, true, true, true, true, true, true, true, true, true, true, true, true, true, true, true, true, false, true, true, false, false, false, false] rfl rfl (any_of HT_.out (by kernel_rfl)) (fun _ _ _ h => h) (Or.inl ⟨by rfl, ?_⟩) ?_ ?_; rotate_left; intro w'; go_simp; with_reducible rfl; rotate_left; simp only [Act.put, List.setIfInBounds_toArray, List.set_cons_zero, List.set_cons_succ, i64_w, i32_w]; rfl
                   refine pure_ (i := 27) (N := some 125) (v := ?_) (a' := ?_) #[true, true, true, true, true, true, true, true, true, true, true, true, true, true, true, true, true, true, true, true, true, true, true, true, false, true, true, true, false, false, false] rfl rfl (any_of HT_.out (by kernel_rfl)) (fun _ _ _ h => h) (Or.inl ⟨by rfl, ?_⟩) ?_ ?_; rotate_left; intro w'; go_simp; with_reducible rfl; rotate_left; simp only [Act.put, List.setIfInBounds_toArray, List.set_cons_zero, List.set_cons_succ, i64_w, i32_w]; rfl
                   refine take_ (i := 24) (N := some 122) (v := ?_) (a' := ?_) #[true, true, true, true, true, true, true, true, true, true, true, true, true, true, true, true, true, true, true, true, true, true, true, true, true, true, true, true, false, false, false] rfl rfl (take_ofW HT_.out HW_.out (by kernel_rfl)) (fun _ _ _ h => h) (Or.inl ⟨by rfl, ?_⟩) hHeld ?_ ?_; rotate_left; rintro w' ⟨s0, s1, s2, s3, s4, s5⟩; go_simp; with_reducible rfl; rotate_left; simp only [Act.put, List.setIfInBounds_toArray, List.set_cons_zero, List.set_cons_succ, i64_w, i32_w]; rfl
                   refine take_ (i := 28) (N := some 126) (v := ?_) (a' := ?_) #[true, true, true, true, true, true, true, true, true, true, true, true, true, true, true, true, true, true, true, true, true, true, true, true, true, true, true, true, true, false, false] rfl rfl (take_ofW HT_.out HW_.out (by kernel_rfl)) (fun _ _ _ h => h) (Or.inl ⟨by rfl, ?_⟩) hHeld ?_ ?_; rotate_left; rintro w' ⟨s0, s1, s2, s3, s4, s5⟩; go_simp; with_reducible rfl; rotate_left; simp only [Act.put, List.setIfInBounds_toArray, List.set_cons_zero, List.set_cons_succ, i64_w, i32_w]; rfl
                   refine pure_ (i := 29) (N := some 127) (v := ?_) (a' := ?_) #[true, true, true, true, true, true, true, true, true, true, true, true, true, true, true, true, true, true, true, true, true, true, true, true, true, true, true, true, true, true, false] rfl rfl (any_of HT_.out (by kernel_rfl)) (fun _ _ _ h => h) (Or.inl ⟨by rfl, ?_⟩) ?_ ?_; rotate_left; intro w'; go_simp; with_reducible rfl; rotate_left; simp only [Act.put, List.setIfInBounds_toArray, List.set_cons_zero, List.set_cons_succ, i64_w, i32_w]; rfl
                   refine pure_ (i := 30) (N := some 128) (v := ?_) (a' := ?_) #[true, true, true, true, true, true, true, true, true, true, true, true, true, true, true, true, true, true, true, true, true, true, true, true, true, true, true, true, true, true, true] rfl rfl (any_of HT_.out (by kernel_rfl)) (fun _ _ _ h => h) (Or.inl ⟨by rfl, ?_⟩) ?_ ?_; rotate_left; intro w'; go_simp; with_reducible rfl; rotate_left; simp only [Act.put, List.setIfInBounds_toArray, List.set_cons_zero, List.set_cons_succ, i64_w, i32_w]; rfl
                   refine done_ (done_of HT_.out (by kernel_rfl)) ?_
                   try go_wp2
                   go_roundg k4
                   case measure => have := HJ5.out; have := HK2.out; have := HK3.out; have := HK4.out; omega
                   case rel => exact ⟨(wrap64 (x95_4 + 1)), (by first | rfl | (simp [*]; done)), H', ⟨by have := HJ5.out; have := HK2.out; have := HK3.out; have := HK4.out; omega⟩, ⟨rx HO_3.out⟩, ⟨rx HO_4.out⟩, ⟨rx HO_6.out⟩, ⟨bx BK292.out⟩, ⟨lb⟩⟩
                 ·
                  rw [if_neg c59] at H
                  have c59b0 : decide ((rd t294 x49_2) < (rd t297 x95_4)) = false := decide_eq_false c59
                  clear c59
                  have H' := ak H
                  clear H
                  try go_wp2
                  have n0_ := ak (Kd.R_drew HO_3.out)
                  have n1_ := ak (Kd.R_drew HO_4.out)
                  have n2_ := ak (Kd.R_drew HO_6.out)
                  have n3_ := ak (blk_drew BK292.out)
                  have n4_ := ak (below_drew1 HB.out)
                  clear HO_3
                  clear HO_4
                  clear HO_6
                  clear BK292
                  clear HB
                  have HO_3 := n0_
                  have HO_4 := n1_
                  have HO_6 := n2_
                  have BK292 := n3_
                  have HB := n4_
                  clear n0_ n1_ n2_ n3_ n4_
                  have p314 : 0 ≤ (x95_4 : Int) := oda
                  have q314 : x95_4 < (t294.length : Int) := oda
                  obtain ⟨ad314, e314, hx314_0⟩ := Kd.at_int (Kd.R_reads' HO_3.out).2.2 x95_4 p314 q314
                  obtain rfl : ad304 = ad314 := (by injection e314)
                  replace p314 := eq_true p314
                  replace q314 := eq_true q314
                  have p315 : 0 ≤ (x49_2 : Int) := oda
                  have q315 : x49_2 < (t294.length : Int) := oda
                  obtain ⟨ad315, e315, hx315_0⟩ := Kd.at_int (Kd.R_reads' HO_3.out).2.2 x49_2 p315 q315
                  obtain rfl : ad304 = ad315 := (by injection e315)
                  replace p315 := eq_true p315
                  replace q315 := eq_true q315
                  have p316 : 0 ≤ (x49_2 : Int) := oda
                  have q316 : x49_2 < (t294.length : Int) := oda
                  obtain ⟨ad316, e316, hx316_0⟩ := Kd.at_int (Kd.R_reads' HO_3.out).2.2 x49_2 p316 q316
                  obtain rfl : ad304 = ad316 := (by injection e316)
                  replace p316 := eq_true p316
                  replace q316 := eq_true q316
                  have p317 : 0 ≤ (x95_4 : Int) := oda
                  have q317 : x95_4 < (t297.length : Int) := oda
                  obtain ⟨ad317, e317, hx317_0⟩ := Kd.at_int (Kd.R_reads' HO_4.out).2.2 x95_4 p317 q317
                  obtain rfl : ad305 = ad317 := (by injection e317)
                  replace p317 := eq_true p317
                  replace q317 := eq_true q317
                  refine start_ (n := 31) (S := fun w' => w'.cell? (ad304.add (x95_4).toNat) = some (.int .i64 (rd t294 x95_4)) ∧ w'.cell? (ad304.add (x49_2).toNat) = some (.int .i64 (rd t294 x49_2)) ∧ w'.cell? (ad304.add (x49_2).toNat) = some (.int .i64 (rd t294 x49_2)) ∧ w'.cell? (ad305.add (x95_4).toNat) = some (.int .i64 (rd t297 x95_4))) (ds := []) #[false, false, false, false, false, false, false, false, false, false, false, false, false, false, false, false, false, false, false, false, false, false, false, false, false, false, false, false, false, false, false] (by kernel_rfl) rfl rfl ⟨hx314_0, hx315_0, hx316_0, hx317_0⟩ (fun hHeld => ?_); refine with_tabW compasslaw04_WalkNests.tab24 compasslaw04_WalkNests.bits24 (fun HT_ HW_ => ?_)
                  generalize wr.drew = w63 at HO_3 HO_4 HO_6 BK292 HB hx314_0 hx315_0 hx316_0 hx317_0 hHeld ⊢
                  refine pure_ (i := 0) (N := some 98) (v := ?_) (a' := ?_) #[true, false, false, false, false, false, false, false, false, false, false, false, false, false, false, false, false, false, false, false, false, false, false, false, false, false, false, false, false, false, false] rfl rfl (any_of HT_.out (by kernel_rfl)) (fun _ _ _ h => h) (Or.inl ⟨by rfl, ?_⟩) ?_ ?_; rotate_left; intro w'; go_simp; with_reducible rfl; rotate_left; simp only [Act.put, List.setIfInBounds_toArray, List.set_cons_zero, List.set_cons_succ, i64_w, i32_w]; rfl
                  refine pure_ (i := 1) (N := some 99) (v := ?_) (a' := ?_) #[true, true, false, false, false, false, false, false, false, false, false, false, false, false, false, false, false, false, false, false, false, false, false, false, false, false, false, false, false, false, false] rfl rfl (any_of HT_.out (by kernel_rfl)) (fun _ _ _ h => h) (Or.inl ⟨by rfl, ?_⟩) ?_ ?_; rotate_left; intro w'; go_simp; with_reducible rfl; rotate_left; simp only [Act.put, List.setIfInBounds_toArray, List.set_cons_zero, List.set_cons_succ, i64_w, i32_w]; rfl
                  refine pure_ (i := 2) (N := some 100) (v := ?_) (a' := ?_) #[true, true, true, false, false, false, false, false, false, false, false, false, false, false, false, false, false, false, false, false, false, false, false, false, false, false, false, false, false, false, false] rfl rfl (any_of HT_.out (by kernel_rfl)) (fun _ _ _ h => h) (Or.inl ⟨by rfl, ?_⟩) ?_ ?_; rotate_left; intro w'; go_simp; with_reducible rfl; rotate_left; simp only [Act.put, List.setIfInBounds_toArray, List.set_cons_zero, List.set_cons_succ, i64_w, i32_w]; rfl
                  refine pure_ (i := 4) (N := some 102) (v := ?_) (a' := ?_) #[true, true, true, false, true, false, false, false, false, false, false, false, false, false, false, false, false, false, false, false, false, false, false, false, false, false, false, false, false, false, false] rfl rfl (any_of HT_.out (by kernel_rfl)) (fun _ _ _ h => h) (Or.inl ⟨by rfl, ?_⟩) ?_ ?_; rotate_left; intro w'; go_simp; with_reducible rfl; rotate_left; simp only [Act.put, List.setIfInBounds_toArray, List.set_cons_zero, List.set_cons_succ, i64_w, i32_w]; rfl
                  refine pure_ (i := 5) (N := some 103) (v := ?_) (a' := ?_) #[true, true, true, false, true, true, false, false, false, false, false, false, false, false, false, false, false, false, false, false, false, false, false, false, false, false, false, false, false, false, false] rfl rfl (any_of HT_.out (by kernel_rfl)) (fun _ _ _ h => h) (Or.inl ⟨by rfl, ?_⟩) ?_ ?_; rotate_left; intro w'; go_simp; with_reducible rfl; rotate_left; simp only [Act.put, List.setIfInBounds_toArray, List.set_cons_zero, List.set_cons_succ, i64_w, i32_w]; rfl
                  refine pure_ (i := 6) (N := some 104) (v := ?_) (a' := ?_) #[true, true, true, false, true, true, true, false, false, false, false, false, false, false, false, false, false, false, false, false, false, false, false, false, false, false, false, false, false, false, false] rfl rfl (any_of HT_.out (by kernel_rfl)) (fun _ _ _ h => h) (Or.inl ⟨by rfl, ?_⟩) ?_ ?_; rotate_left; intro w'; go_simp; with_reducible rfl; rotate_left; simp only [Act.put, List.setIfInBounds_toArray, List.set_cons_zero, List.set_cons_succ, i64_w, i32_w]; rfl
                  refine take_ (i := 3) (N := some 101) (v := ?_) (a' := ?_) #[true, true, true, true, true, true, true, false, false, false, false, false, false, false, false, false, false, false, false, false, false, false, false, false, false, false, false, false, false, false, false] rfl rfl (take_ofW HT_.out HW_.out (by kernel_rfl)) (fun _ _ _ h => h) (Or.inl ⟨by rfl, ?_⟩) hHeld ?_ ?_; rotate_left; rintro w' ⟨s0, s1, s2, s3⟩; go_simp; with_reducible rfl; rotate_left; simp only [Act.put, List.setIfInBounds_toArray, List.set_cons_zero, List.set_cons_succ, i64_w, i32_w]; rfl
                  refine take_ (i := 7) (N := some 105) (v := ?_) (a' := ?_) #[true, true, true, true, true, true, true, true, false, false, false, false, false, false, false, false, false, false, false, false, false, false, false, false, false, false, false, false, false, false, false] rfl rfl (take_ofW HT_.out HW_.out (by kernel_rfl)) (fun _ _ _ h => h) (Or.inl ⟨by rfl, ?_⟩) hHeld ?_ ?_; rotate_left; rintro w' ⟨s0, s1, s2, s3⟩; go_simp; with_reducible rfl; rotate_left; simp only [Act.put, List.setIfInBounds_toArray, List.set_cons_zero, List.set_cons_succ, i64_w, i32_w]; rfl
                  refine pure_ (i := 8) (N := some 106) (v := ?_) (a' := ?_) #[true, true, true, true, true, true, true, true, true, false, false, false, false, false, false, false, false, false, false, false, false, false, false, false, false, false, false, false, false, false, false] rfl rfl (any_of HT_.out (by kernel_rfl)) (fun _ _ _ h => h) (Or.inl ⟨by rfl, ?_⟩) ?_ ?_; rotate_left; intro w'; go_simp; with_reducible rfl; rotate_left; simp only [Act.put, List.setIfInBounds_toArray, List.set_cons_zero, List.set_cons_succ, i64_w, i32_w]; rfl
                  refine pure_ (i := 9) (N := some 107) (v := ?_) (a' := ?_) #[true, true, true, true, true, true, true, true, true, true, false, false, false, false, false, false, false, false, false, false, false, false, false, false, false, false, false, false, false, false, false] rfl rfl (any_of HT_.out (by kernel_rfl)) (fun _ _ _ h => h) (Or.inl ⟨by rfl, ?_⟩) ?_ ?_; rotate_left; intro w'; go_simp; with_reducible rfl; rotate_left; simp only [Act.put, List.setIfInBounds_toArray, List.set_cons_zero, List.set_cons_succ, i64_w, i32_w]; rfl
                  refine pure_ (i := 10) (N := some 108) (v := ?_) (a' := ?_) #[true, true, true, true, true, true, true, true, true, true, true, false, false, false, false, false, false, false, false, false, false, false, false, false, false, false, false, false, false, false, false] rfl rfl (any_of HT_.out (by kernel_rfl)) (fun _ _ _ h => h) (Or.inl ⟨by rfl, ?_⟩) ?_ ?_; rotate_left; intro w'; go_simp; with_reducible rfl; rotate_left; simp only [Act.put, List.setIfInBounds_toArray, List.set_cons_zero, List.set_cons_succ, i64_w, i32_w]; rfl
                  refine pure_ (i := 11) (N := some 109) (v := ?_) (a' := ?_) #[true, true, true, true, true, true, true, true, true, true, true, true, false, false, false, false, false, false, false, false, false, false, false, false, false, false, false, false, false, false, false] rfl rfl (any_of HT_.out (by kernel_rfl)) (fun _ _ _ h => h) (Or.inl ⟨by rfl, ?_⟩) ?_ ?_; rotate_left; intro w'; go_simp; with_reducible rfl; rotate_left; simp only [Act.put, List.setIfInBounds_toArray, List.set_cons_zero, List.set_cons_succ, i64_w, i32_w]; rfl
                  refine pure_ (i := 12) (N := some 110) (v := ?_) (a' := ?_) #[true, true, true, true, true, true, true, true, true, true, true, true, true, false, false, false, false, false, false, false, false, false, false, false, false, false, false, false, false, false, false] rfl rfl (any_of HT_.out (by kernel_rfl)) (fun _ _ _ h => h) (Or.inl ⟨by rfl, ?_⟩) ?_ ?_; rotate_left; intro w'; go_simp; with_reducible rfl; rotate_left; simp only [Act.put, List.setIfInBounds_toArray, List.set_cons_zero, List.set_cons_succ, i64_w, i32_w]; rfl
                  refine pure_ (i := 14) (N := some 112) (v := ?_) (a' := ?_) #[true, true, true, true, true, true, true, true, true, true, true, true, true, false, true, false, false, false, false, false, false, false, false, false, false, false, false, false, false, false, false] rfl rfl (any_of HT_.out (by kernel_rfl)) (fun _ _ _ h => h) (Or.inl ⟨by rfl, ?_⟩) ?_ ?_; rotate_left; intro w'; go_simp; with_reducible rfl; rotate_left; simp only [Act.put, List.setIfInBounds_toArray, List.set_cons_zero, List.set_cons_succ, i64_w, i32_w]; rfl
                  refine pure_ (i := 15) (N := some 113) (v := ?_) (a' := ?_) #[true, true, true, true, true, true, true, true, true, true, true, true, true, false, true, true, false, false, false, false, false, false, false, false, false, false, false, false, false, false, false] rfl rfl (any_of HT_.out (by kernel_rfl)) (fun _ _ _ h => h) (Or.inl ⟨by rfl, ?_⟩) ?_ ?_; rotate_left; intro w'; go_simp; with_reducible rfl; rotate_left; simp only [Act.put, List.setIfInBounds_toArray, List.set_cons_zero, List.set_cons_succ, i64_w, i32_w]; rfl
                  refine pure_ (i := 16) (N := some 114) (v := ?_) (a' := ?_) #[true, true, true, true, true, true, true, true, true, true, true, true, true, false, true, true, true, false, false, false, false, false, false, false, false, false, false, false, false, false, false] rfl rfl (any_of HT_.out (by kernel_rfl)) (fun _ _ _ h => h) (Or.inl ⟨by rfl, ?_⟩) ?_ ?_; rotate_left; intro w'; go_simp; with_reducible rfl; rotate_left; simp only [Act.put, List.setIfInBounds_toArray, List.set_cons_zero, List.set_cons_succ, i64_w, i32_w]; rfl
                  refine take_ (i := 13) (N := some 111) (v := ?_) (a' := ?_) #[true, true, true, true, true, true, true, true, true, true, true, true, true, true, true, true, true, false, false, false, false, false, false, false, false, false, false, false, false, false, false] rfl rfl (take_ofW HT_.out HW_.out (by kernel_rfl)) (fun _ _ _ h => h) (Or.inl ⟨by rfl, ?_⟩) hHeld ?_ ?_; rotate_left; rintro w' ⟨s0, s1, s2, s3⟩; go_simp; with_reducible rfl; rotate_left; simp only [Act.put, List.setIfInBounds_toArray, List.set_cons_zero, List.set_cons_succ, i64_w, i32_w]; rfl
                  refine take_ (i := 17) (N := some 115) (v := ?_) (a' := ?_) #[true, true, true, true, true, true, true, true, true, true, true, true, true, true, true, true, true, true, false, false, false, false, false, false, false, false, false, false, false, false, false] rfl rfl (take_ofW HT_.out HW_.out (by kernel_rfl)) (fun _ _ _ h => h) (Or.inl ⟨by rfl, ?_⟩) hHeld ?_ ?_; rotate_left; rintro w' ⟨s0, s1, s2, s3⟩; go_simp; with_reducible rfl; rotate_left; simp only [Act.put, List.setIfInBounds_toArray, List.set_cons_zero, List.set_cons_succ, i64_w, i32_w]; rfl
                  refine pure_ (i := 18) (N := some 116) (v := ?_) (a' := ?_) #[true, true, true, true, true, true, true, true, true, true, true, true, true, true, true, true, true, true, true, false, false, false, false, false, false, false, false, false, false, false, false] rfl rfl (any_of HT_.out (by kernel_rfl)) (fun _ _ _ h => h) (Or.inl ⟨by rfl, ?_⟩) ?_ ?_; rotate_left; intro w'; go_simp; with_reducible rfl; rotate_left; simp only [Act.put, List.setIfInBounds_toArray, List.set_cons_zero, List.set_cons_succ, i64_w, i32_w]; rfl
                  refine pure_ (i := 19) (N := some 117) (v := ?_) (a' := ?_) #[true, true, true, true, true, true, true, true, true, true, true, true, true, true, true, true, true, true, true, true, false, false, false, false, false, false, false, false, false, false, false] rfl rfl (any_of HT_.out (by kernel_rfl)) (fun _ _ _ h => h) (Or.inl ⟨by rfl, ?_⟩) ?_ ?_; rotate_left; intro w'; go_simp; with_reducible rfl; rotate_left; simp only [Act.put, List.setIfInBounds_toArray, List.set_cons_zero, List.set_cons_succ, i64_w, i32_w]; rfl
                  refine pure_ (i := 20) (N := some 118) (v := ?_) (a' := ?_) #[true, true, true, true, true, true, true, true, true, true, true, true, true, true, true, true, true, true, true, true, true, false, false, false, false, false, false, false, false, false, false] rfl rfl (any_of HT_.out (by kernel_rfl)) (fun _ _ _ h => h) (Or.inl ⟨by rfl, ?_⟩) ?_ ?_; rotate_left; intro w'; go_simp; with_reducible rfl; rotate_left; simp only [Act.put, List.setIfInBounds_toArray, List.set_cons_zero, List.set_cons_succ, i64_w, i32_w]; rfl
                  refine pure_ (i := 21) (N := some 119) (v := undef) (a' := ?_) #[true, true, true, true, true, true, true, true, true, true, true, true, true, true, true, true, true, true, true, true, true, true, false, false, false, false, false, false, false, false, false] rfl rfl (any_of HT_.out (by kernel_rfl)) (fun _ _ _ h => h) (Or.inr ⟨by rfl, rfl⟩) ?_ ?_
                  rotate_left
                  ·
                   simp only [Act.put, List.setIfInBounds_toArray, List.set_cons_zero, List.set_cons_succ, i64_w, i32_w]
                   rfl
                  refine pure_ (i := 22) (N := some 120) (v := undef) (a' := ?_) #[true, true, true, true, true, true, true, true, true, true, true, true, true, true, true, true, true, true, true, true, true, true, true, false, false, false, false, false, false, false, false] rfl rfl (any_of HT_.out (by kernel_rfl)) (fun _ _ _ h => h) (Or.inr ⟨by rfl, rfl⟩) ?_ ?_
                  rotate_left
                  ·
                   simp only [Act.put, List.setIfInBounds_toArray, List.set_cons_zero, List.set_cons_succ, i64_w, i32_w]
                   rfl
                  refine pure_ (i := 23) (N := some 121) (v := undef) (a' := ?_) #[true, true, true, true, true, true, true, true, true, true, true, true, true, true, true, true, true, true, true, true, true, true, true, true, false, false, false, false, false, false, false] rfl rfl (any_of HT_.out (by kernel_rfl)) (fun _ _ _ h => h) (Or.inr ⟨by rfl, rfl⟩) ?_ ?_
                  rotate_left
                  ·
                   simp only [Act.put, List.setIfInBounds_toArray, List.set_cons_zero, List.set_cons_succ, i64_w, i32_w]
                   rfl
                  refine pure_ (i := 24) (N := some 122) (v := undef) (a' := ?_) #[true, true, true, true, true, true, true, true, true, true, true, true, true, true, true, true, true, true, true, true, true, true, true, true, true, false, false, false, false, false, false] rfl rfl (any_of HT_.out (by kernel_rfl)) (fun _ _ _ h => h) (Or.inr ⟨by rfl, rfl⟩) ?_ ?_
                  rotate_left
                  ·
                   simp only [Act.put, List.setIfInBounds_toArray, List.set_cons_zero, List.set_cons_succ, i64_w, i32_w]
                   rfl
                  refine pure_ (i := 25) (N := some 123) (v := undef) (a' := ?_) #[true, true, true, true, true, true, true, true, true, true, true, true, true, true, true, true, true, true, true, true, true, true, true, true, true, true, false, false, false, false, false] rfl rfl (any_of HT_.out (by kernel_rfl)) (fun _ _ _ h => h) (Or.inr ⟨by rfl, rfl⟩) ?_ ?_
                  rotate_left
                  ·
                   simp only [Act.put, List.setIfInBounds_toArray, List.set_cons_zero, List.set_cons_succ, i64_w, i32_w]
                   rfl
                  refine pure_ (i := 26) (N := some 124) (v := undef) (a' := ?_) #[true, true, true, true, true, true, true, true, true, true, true, true, true, true, true, true, true, true, true, true, true, true, true, true, true, true, true, false, false, false, false] rfl rfl (any_of HT_.out (by kernel_rfl)) (fun _ _ _ h => h) (Or.inr ⟨by rfl, rfl⟩) ?_ ?_
                  rotate_left
                  ·
                   simp only [Act.put, List.setIfInBounds_toArray, List.set_cons_zero, List.set_cons_succ, i64_w, i32_w]
                   rfl
                  refine pure_ (i := 27) (N := some 125) (v := undef) (a' := ?_) #[true, true, true, true, true, true, true, true, true, true, true, true, true, true, true, true, true, true, true, true, true, true, true, true, true, true, true, true, false, false, false] rfl rfl (any_of HT_.out (by kernel_rfl)) (fun _ _ _ h => h) (Or.inr ⟨by rfl, rfl⟩) ?_ ?_
                  rotate_left
                  ·
                   simp only [Act.put, List.setIfInBounds_toArray, List.set_cons_zero, List.set_cons_succ, i64_w, i32_w]
                   rfl
                  refine pure_ (i := 28) (N := some 126) (v := undef) (a' := ?_) #[true, true, true, true, true, true, true, true, true, true, true, true, true, true, true, true, true, true, true, true, true, true, true, true, true, true, true, true, true, false, false] rfl rfl (any_of HT_.out (by kernel_rfl)) (fun _ _ _ h => h) (Or.inr ⟨by rfl, rfl⟩) ?_ ?_
                  rotate_left
                  ·
                   simp only [Act.put, List.setIfInBounds_toArray, List.set_cons_zero, List.set_cons_succ, i64_w, i32_w]
                   rfl
                  refine pure_ (i := 29) (N := some 127) (v := undef) (a' := ?_) #[true, true, true, true, true, true, true, true, true, true, true, true, true, true, true, true, true, true, true, true, true, true, true, true, true, true, true, true, true, true, false] rfl rfl (any_of HT_.out (by kernel_rfl)) (fun _ _ _ h => h) (Or.inr ⟨by rfl, rfl⟩) ?_ ?_
                  rotate_left
                  ·
                   simp only [Act.put, List.setIfInBounds_toArray, List.set_cons_zero, List.set_cons_succ, i64_w, i32_w]
                   rfl
                  refine pure_ (i := 30) (N := some 128) (v := ?_) (a' := ?_) #[true, true, true, true, true, true, true, true, true, true, true, true, true, true, true, true, true, true, true, true, true, true, true, true, true, true, true, true, true, true, true] rfl rfl (any_of HT_.out (by kernel_rfl)) (fun _ _ _ h => h) (Or.inl ⟨by rfl, ?_⟩) ?_ ?_; rotate_left; intro w'; go_simp; with_reducible rfl; rotate_left; simp only [Act.put, List.setIfInBounds_toArray, List.set_cons_zero, List.set_cons_succ, i64_w, i32_w]; rfl
                  refine done_ (done_of HT_.out (by kernel_rfl)) ?_
                  try go_wp2
                  go_roundg k4
                  case measure => have := HJ5.out; have := HK2.out; have := HK3.out; have := HK4.out; omega
                  case rel => exact ⟨(wrap64 (x95_4 + 1)), (by first | rfl | (simp [*]; done)), H', ⟨by have := HJ5.out; have := HK2.out; have := HK3.out; have := HK4.out; omega⟩, ⟨rx HO_3.out⟩, ⟨rx HO_4.out⟩, ⟨rx HO_6.out⟩, ⟨bx BK292.out⟩, ⟨lb⟩⟩
                ·
                 rw [if_neg c57] at H
                 have c57b0 : decide ((rd t294 x95_4) < (rd t294 x49_2)) = false := decide_eq_false c57
                 clear c57
                 have H' := ak H
                 clear H
                 try go_wp2
                 have n0_ := ak (Kd.R_drew HO_3.out)
                 have n1_ := ak (Kd.R_drew HO_4.out)
                 have n2_ := ak (Kd.R_drew HO_6.out)
                 have n3_ := ak (blk_drew BK292.out)
                 have n4_ := ak (below_drew1 HB.out)
                 clear HO_3
                 clear HO_4
                 clear HO_6
                 clear BK292
                 clear HB
                 have HO_3 := n0_
                 have HO_4 := n1_
                 have HO_6 := n2_
                 have BK292 := n3_
                 have HB := n4_
                 clear n0_ n1_ n2_ n3_ n4_
                 have p314 : 0 ≤ (x95_4 : Int) := oda
                 have q314 : x95_4 < (t294.length : Int) := oda
                 obtain ⟨ad314, e314, hx314_0⟩ := Kd.at_int (Kd.R_reads' HO_3.out).2.2 x95_4 p314 q314
                 obtain rfl : ad304 = ad314 := (by injection e314)
                 replace p314 := eq_true p314
                 replace q314 := eq_true q314
                 have p315 : 0 ≤ (x49_2 : Int) := oda
                 have q315 : x49_2 < (t294.length : Int) := oda
                 obtain ⟨ad315, e315, hx315_0⟩ := Kd.at_int (Kd.R_reads' HO_3.out).2.2 x49_2 p315 q315
                 obtain rfl : ad304 = ad315 := (by injection e315)
                 replace p315 := eq_true p315
                 replace q315 := eq_true q315
                 refine start_ (n := 31) (S := fun w' => w'.cell? (ad304.add (x95_4).toNat) = some (.int .i64 (rd t294 x95_4)) ∧ w'.cell? (ad304.add (x49_2).toNat) = some (.int .i64 (rd t294 x49_2))) (ds := []) #[false, false, false, false, false, false, false, false, false, false, false, false, false, false, false, false, false, false, false, false, false, false, false, false, false, false, false, false, false, false, false] (by kernel_rfl) rfl rfl ⟨hx314_0, hx315_0⟩ (fun hHeld => ?_); refine with_tabW compasslaw04_WalkNests.tab24 compasslaw04_WalkNests.bits24 (fun HT_ HW_ => ?_)
                 generalize wr.drew = w64 at HO_3 HO_4 HO_6 BK292 HB hx314_0 hx315_0 hHeld ⊢
                 refine pure_ (i := 0) (N := some 98) (v := ?_) (a' := ?_) #[true, false, false, false, false, false, false, false, false, false, false, false, false, false, false, false, false, false, false, false, false, false, false, false, false, false, false, false, false, false, false] rfl rfl (any_of HT_.out (by kernel_rfl)) (fun _ _ _ h => h) (Or.inl ⟨by rfl, ?_⟩) ?_ ?_; rotate_left; intro w'; go_simp; with_reducible rfl; rotate_left; simp only [Act.put, List.setIfInBounds_toArray, List.set_cons_zero, List.set_cons_succ, i64_w, i32_w]; rfl
                 refine pure_ (i := 1) (N := some 99) (v := ?_) (a' := ?_) #[true, true, false, false, false, false, false, false, false, false, false, false, false, false, false, false, false, false, false, false, false, false, false, false, false, false, false, false, false, false, false] rfl rfl (any_of HT_.out (by kernel_rfl)) (fun _ _ _ h => h) (Or.inl ⟨by rfl, ?_⟩) ?_ ?_; rotate_left; intro w'; go_simp; with_reducible rfl; rotate_left; simp only [Act.put, List.setIfInBounds_toArray, List.set_cons_zero, List.set_cons_succ, i64_w, i32_w]; rfl
                 refine pure_ (i := 2) (N := some 100) (v := ?_) (a' := ?_) #[true, true, true, false, false, false, false, false, false, false, false, false, false, false, false, false, false, false, false, false, false, false, false, false, false, false, false, false, false, false, false] rfl rfl (any_of HT_.out (by kernel_rfl)) (fun _ _ _ h => h) (Or.inl ⟨by rfl, ?_⟩) ?_ ?_; rotate_left; intro w'; go_simp; with_reducible rfl; rotate_left; simp only [Act.put, List.setIfInBounds_toArray, List.set_cons_zero, List.set_cons_succ, i64_w, i32_w]; rfl
                 refine pure_ (i := 4) (N := some 102) (v := ?_) (a' := ?_) #[true, true, true, false, true, false, false, false, false, false, false, false, false, false, false, false, false, false, false, false, false, false, false, false, false, false, false, false, false, false, false] rfl rfl (any_of HT_.out (by kernel_rfl)) (fun _ _ _ h => h) (Or.inl ⟨by rfl, ?_⟩) ?_ ?_; rotate_left; intro w'; go_simp; with_reducible rfl; rotate_left; simp only [Act.put, List.setIfInBounds_toArray, List.set_cons_zero, List.set_cons_succ, i64_w, i32_w]; rfl
                 refine pure_ (i := 5) (N := some 103) (v := ?_) (a' := ?_) #[true, true, true, false, true, true, false, false, false, false, false, false, false, false, false, false, false, false, false, false, false, false, false, false, false, false, false, false, false, false, false] rfl rfl (any_of HT_.out (by kernel_rfl)) (fun _ _ _ h => h) (Or.inl ⟨by rfl, ?_⟩) ?_ ?_; rotate_left; intro w'; go_simp; with_reducible rfl; rotate_left; simp only [Act.put, List.setIfInBounds_toArray, List.set_cons_zero, List.set_cons_succ, i64_w, i32_w]; rfl
                 refine pure_ (i := 6) (N := some 104) (v := ?_) (a' := ?_) #[true, true, true, false, true, true, true, false, false, false, false, false, false, false, false, false, false, false, false, false, false, false, false, false, false, false, false, false, false, false, false] rfl rfl (any_of HT_.out (by kernel_rfl)) (fun _ _ _ h => h) (Or.inl ⟨by rfl, ?_⟩) ?_ ?_; rotate_left; intro w'; go_simp; with_reducible rfl; rotate_left; simp only [Act.put, List.setIfInBounds_toArray, List.set_cons_zero, List.set_cons_succ, i64_w, i32_w]; rfl
                 refine take_ (i := 3) (N := some 101) (v := ?_) (a' := ?_) #[true, true, true, true, true, true, true, false, false, false, false, false, false, false, false, false, false, false, false, false, false, false, false, false, false, false, false, false, false, false, false] rfl rfl (take_ofW HT_.out HW_.out (by kernel_rfl)) (fun _ _ _ h => h) (Or.inl ⟨by rfl, ?_⟩) hHeld ?_ ?_; rotate_left; rintro w' ⟨s0, s1⟩; go_simp; with_reducible rfl; rotate_left; simp only [Act.put, List.setIfInBounds_toArray, List.set_cons_zero, List.set_cons_succ, i64_w, i32_w]; rfl
                 refine take_ (i := 7) (N := some 105) (v := ?_) (a' := ?_) #[true, true, true, true, true, true, true, true, false, false, false, false, false, false, false, false, false, false, false, false, false, false, false, false, false, false, false, false, false, false, false] rfl rfl (take_ofW HT_.out HW_.out (by kernel_rfl)) (fun _ _ _ h => h) (Or.inl ⟨by rfl, ?_⟩) hHeld ?_ ?_; rotate_left; rintro w' ⟨s0, s1⟩; go_simp; with_reducible rfl; rotate_left; simp only [Act.put, List.setIfInBounds_toArray, List.set_cons_zero, List.set_cons_succ, i64_w, i32_w]; rfl
                 refine pure_ (i := 8) (N := some 106) (v := ?_) (a' := ?_) #[true, true, true, true, true, true, true, true, true, false, false, false, false, false, false, false, false, false, false, false, false, false, false, false, false, false, false, false, false, false, false] rfl rfl (any_of HT_.out (by kernel_rfl)) (fun _ _ _ h => h) (Or.inl ⟨by rfl, ?_⟩) ?_ ?_; rotate_left; intro w'; go_simp; with_reducible rfl; rotate_left; simp only [Act.put, List.setIfInBounds_toArray, List.set_cons_zero, List.set_cons_succ, i64_w, i32_w]; rfl
                 refine pure_ (i := 9) (N := some 107) (v := ?_) (a' := ?_) #[true, true, true, true, true, true, true, true, true, true, false, false, false, false, false, false, false, false, false, false, false, false, false, false, false, false, false, false, false, false, false] rfl rfl (any_of HT_.out (by kernel_rfl)) (fun _ _ _ h => h) (Or.inl ⟨by rfl, ?_⟩) ?_ ?_; rotate_left; intro w'; go_simp; with_reducible rfl; rotate_left; simp only [Act.put, List.setIfInBounds_toArray, List.set_cons_zero, List.set_cons_succ, i64_w, i32_w]; rfl
                 refine pure_ (i := 10) (N := some 108) (v := undef) (a' := ?_) #[true, true, true, true, true, true, true, true, true, true, true, false, false, false, false, false, false, false, false, false, false, false, false, false, false, false, false, false, false, false, false] rfl rfl (any_of HT_.out (by kernel_rfl)) (fun _ _ _ h => h) (Or.inr ⟨by rfl, rfl⟩) ?_ ?_
                 rotate_left
                 ·
                  simp only [Act.put, List.setIfInBounds_toArray, List.set_cons_zero, List.set_cons_succ, i64_w, i32_w]
                  rfl
                 refine pure_ (i := 11) (N := some 109) (v := undef) (a' := ?_) #[true, true, true, true, true, true, true, true, true, true, true, true, false, false, false, false, false, false, false, false, false, false, false, false, false, false, false, false, false, false, false] rfl rfl (any_of HT_.out (by kernel_rfl)) (fun _ _ _ h => h) (Or.inr ⟨by rfl, rfl⟩) ?_ ?_
                 rotate_left
                 ·
                  simp only [Act.put, List.setIfInBounds_toArray, List.set_cons_zero, List.set_cons_succ, i64_w, i32_w]
                  rfl
                 refine pure_ (i := 12) (N := some 110) (v := undef) (a' := ?_) #[true, true, true, true, true, true, true, true, true, true, true, true, true, false, false, false, false, false, false, false, false, false, false, false, false, false, false, false, false, false, false] rfl rfl (any_of HT_.out (by kernel_rfl)) (fun _ _ _ h => h) (Or.inr ⟨by rfl, rfl⟩) ?_ ?_
                 rotate_left
                 ·
                  simp only [Act.put, List.setIfInBounds_toArray, List.set_cons_zero, List.set_cons_succ, i64_w, i32_w]
                  rfl
                 refine pure_ (i := 13) (N := some 111) (v := undef) (a' := ?_) #[true, true, true, true, true, true, true, true, true, true, true, true, true, true, false, false, false, false, false, false, false, false, false, false, false, false, false, false, false, false, false] rfl rfl (any_of HT_.out (by kernel_rfl)) (fun _ _ _ h => h) (Or.inr ⟨by rfl, rfl⟩) ?_ ?_
                 rotate_left
                 ·
                  simp only [Act.put, List.setIfInBounds_toArray, List.set_cons_zero, List.set_cons_succ, i64_w, i32_w]
                  rfl
                 refine pure_ (i := 14) (N := some 112) (v := undef) (a' := ?_) #[true, true, true, true, true, true, true, true, true, true, true, true, true, true, true, false, false, false, false, false, false, false, false, false, false, false, false, false, false, false, false] rfl rfl (any_of HT_.out (by kernel_rfl)) (fun _ _ _ h => h) (Or.inr ⟨by rfl, rfl⟩) ?_ ?_
                 rotate_left
                 ·
                  simp only [Act.put, List.setIfInBounds_toArray, List.set_cons_zero, List.set_cons_succ, i64_w, i32_w]
                  rfl
                 refine pure_ (i := 15) (N := some 113) (v := undef) (a' := ?_) #[true, true, true, true, true, true, true, true, true, true, true, true, true, true, true, true, false, false, false, false, false, false, false, false, false, false, false, false, false, false, false] rfl rfl (any_of HT_.out (by kernel_rfl)) (fun _ _ _ h => h) (Or.inr ⟨by rfl, rfl⟩) ?_ ?_
                 rotate_left
                 ·
                  simp only [Act.put, List.setIfInBounds_toArray, List.set_cons_zero, List.set_cons_succ, i64_w, i32_w]
                  rfl
                 refine pure_ (i := 16) (N := some 114) (v := undef) (a' := ?_) #[true, true, true, true, true, true, true, true, true, true, true, true, true, true, true, true, true, false, false, false, false, false, false, false, false, false, false, false, false, false, false] rfl rfl (any_of HT_.out (by kernel_rfl)) (fun _ _ _ h => h) (Or.inr ⟨by rfl, rfl⟩) ?_ ?_
                 rotate_left
                 ·
                  simp only [Act.put, List.setIfInBounds_toArray, List.set_cons_zero, List.set_cons_succ, i64_w, i32_w]
                  rfl
                 refine pure_ (i := 17) (N := some 115) (v := undef) (a' := ?_) #[true, true, true, true, true, true, true, true, true, true, true, true, true, true, true, true, true, true, false, false, false, false, false, false, false, false, false, false, false, false, false] rfl rfl (any_of HT_.out (by kernel_rfl)) (fun _ _ _ h => h) (Or.inr ⟨by rfl, rfl⟩) ?_ ?_
                 rotate_left
                 ·
                  simp only [Act.put, List.setIfInBounds_toArray, List.set_cons_zero, List.set_cons_succ, i64_w, i32_w]
                  rfl
                 refine pure_ (i := 18) (N := some 116) (v := undef) (a' := ?_) #[true, true, true, true, true, true, true, true, true, true, true, true, true, true, true, true, true, true, true, false, false, false, false, false, false, false, false, false, false, false, false] rfl rfl (any_of HT_.out (by kernel_rfl)) (fun _ _ _ h => h) (Or.inr ⟨by rfl, rfl⟩) ?_ ?_
                 rotate_left
                 ·
                  simp only [Act.put, List.setIfInBounds_toArray, List.set_cons_zero, List.set_cons_succ, i64_w, i32_w]
                  rfl
                 refine pure_ (i := 19) (N := some 117) (v := ?_) (a' := ?_) #[true, true, true, true, true, true, true, true, true, true, true, true, true, true, true, true, true, true, true, true, false, false, false, false, false, false, false, false, false, false, false] rfl rfl (any_of HT_.out (by kernel_rfl)) (fun _ _ _ h => h) (Or.inl ⟨by rfl, ?_⟩) ?_ ?_; rotate_left; intro w'; go_simp; with_reducible rfl; rotate_left; simp only [Act.put, List.setIfInBounds_toArray, List.set_cons_zero, List.set_cons_succ, i64_w, i32_w]; rfl
                 refine pure_ (i := 20) (N := some 118) (v := ?_) (a' := ?_) #[true, true, true, true, true, true, true, true, true, true, true, true, true, true, true, true, true, true, true, true, true, false, false, false, false, false, false, false, false, false, false] rfl rfl (any_of HT_.out (by kernel_rfl)) (fun _ _ _ h => h) (Or.inl ⟨by rfl, ?_⟩) ?_ ?_; rotate_left; intro w'; go_simp; with_reducible rfl; rotate_left; simp only [Act.put, List.setIfInBounds_toArray, List.set_cons_zero, List.set_cons_succ, i64_w, i32_w]; rfl
                 refine pure_ (i := 21) (N := some 119) (v := undef) (a' := ?_) #[true, true, true, true, true, true, true, true, true, true, true, true, true, true, true, true, true, true, true, true, true, true, false, false, false, false, false, false, false, false, false] rfl rfl (any_of HT_.out (by kernel_rfl)) (fun _ _ _ h => h) (Or.inr ⟨by rfl, rfl⟩) ?_ ?_
                 rotate_left
                 ·
                  simp only [Act.put, List.setIfInBounds_toArray, List.set_cons_zero, List.set_cons_succ, i64_w, i32_w]
                  rfl
                 refine pure_ (i := 22) (N := some 120) (v := undef) (a' := ?_) #[true, true, true, true, true, true, true, true, true, true, true, true, true, true, true, true, true, true, true, true, true, true, true, false, false, false, false, false, false, false, false] rfl rfl (any_of HT_.out (by kernel_rfl)) (fun _ _ _ h => h) (Or.inr ⟨by rfl, rfl⟩) ?_ ?_
                 rotate_left
                 ·
                  simp only [Act.put, List.setIfInBounds_toArray, List.set_cons_zero, List.set_cons_succ, i64_w, i32_w]
                  rfl
                 refine pure_ (i := 23) (N := some 121) (v := undef) (a' := ?_) #[true, true, true, true, true, true, true, true, true, true, true, true, true, true, true, true, true, true, true, true, true, true, true, true, false, false, false, false, false, false, false] rfl rfl (any_of HT_.out (by kernel_rfl)) (fun _ _ _ h => h) (Or.inr ⟨by rfl, rfl⟩) ?_ ?_
                 rotate_left
                 ·
                  simp only [Act.put, List.setIfInBounds_toArray, List.set_cons_zero, List.set_cons_succ, i64_w, i32_w]
                  rfl
                 refine pure_ (i := 24) (N := some 122) (v := undef) (a' := ?_) #[true, true, true, true, true, true, true, true, true, true, true, true, true, true, true, true, true, true, true, true, true, true, true, true, true, false, false, false, false, false, false] rfl rfl (any_of HT_.out (by kernel_rfl)) (fun _ _ _ h => h) (Or.inr ⟨by rfl, rfl⟩) ?_ ?_
                 rotate_left
                 ·
                  simp only [Act.put, List.setIfInBounds_toArray, List.set_cons_zero, List.set_cons_succ, i64_w, i32_w]
                  rfl
                 refine pure_ (i := 25) (N := some 123) (v := undef) (a' := ?_) #[true, true, true, true, true, true, true, true, true, true, true, true, true, true, true, true, true, true, true, true, true, true, true, true, true, true, false, false, false, false, false] rfl rfl (any_of HT_.out (by kernel_rfl)) (fun _ _ _ h => h) (Or.inr ⟨by rfl, rfl⟩) ?_ ?_
                 rotate_left
                 ·
                  simp only [Act.put, List.setIfInBounds_toArray, List.set_cons_zero, List.set_cons_succ, i64_w, i32_w]
                  rfl
                 refine pure_ (i := 26) (N := some 124) (v := undef) (a' := ?_) #[true, true, true, true, true, true, true, true, true, true, true, true, true, true, true, true, true, true, true, true, true, true, true, true, true, true, true, false, false, false, false] rfl rfl (any_of HT_.out (by kernel_rfl)) (fun _ _ _ h => h) (Or.inr ⟨by rfl, rfl⟩) ?_ ?_
                 rotate_left
                 ·
                  simp only [Act.put, List.setIfInBounds_toArray, List.set_cons_zero, List.set_cons_succ, i64_w, i32_w]
                  rfl
                 refine pure_ (i := 27) (N := some 125) (v := undef) (a' := ?_) #[true, true, true, true, true, true, true, true, true, true, true, true, true, true, true, true, true, true, true, true, true, true, true, true, true, true, true, true, false, false, false] rfl rfl (any_of HT_.out (by kernel_rfl)) (fun _ _ _ h => h) (Or.inr ⟨by rfl, rfl⟩) ?_ ?_
                 rotate_left
                 ·
                  simp only [Act.put, List.setIfInBounds_toArray, List.set_cons_zero, List.set_cons_succ, i64_w, i32_w]
                  rfl
                 refine pure_ (i := 28) (N := some 126) (v := undef) (a' := ?_) #[true, true, true, true, true, true, true, true, true, true, true, true, true, true, true, true, true, true, true, true, true, true, true, true, true, true, true, true, true, false, false] rfl rfl (any_of HT_.out (by kernel_rfl)) (fun _ _ _ h => h) (Or.inr ⟨by rfl, rfl⟩) ?_ ?_
                 rotate_left
                 ·
                  simp only [Act.put, List.setIfInBounds_toArray, List.set_cons_zero, List.set_cons_succ, i64_w, i32_w]
                  rfl
                 refine pure_ (i := 29) (N := some 127) (v := undef) (a' := ?_) #[true, true, true, true, true, true, true, true, true, true, true, true, true, true, true, true, true, true, true, true, true, true, true, true, true, true, true, true, true, true, false] rfl rfl (any_of HT_.out (by kernel_rfl)) (fun _ _ _ h => h) (Or.inr ⟨by rfl, rfl⟩) ?_ ?_
                 rotate_left
                 ·
                  simp only [Act.put, List.setIfInBounds_toArray, List.set_cons_zero, List.set_cons_succ, i64_w, i32_w]
                  rfl
                 refine pure_ (i := 30) (N := some 128) (v := ?_) (a' := ?_) #[true, true, true, true, true, true, true, true, true, true, true, true, true, true, true, true, true, true, true, true, true, true, true, true, true, true, true, true, true, true, true] rfl rfl (any_of HT_.out (by kernel_rfl)) (fun _ _ _ h => h) (Or.inl ⟨by rfl, ?_⟩) ?_ ?_; rotate_left; intro w'; go_simp; with_reducible rfl; rotate_left; simp only [Act.put, List.setIfInBounds_toArray, List.set_cons_zero, List.set_cons_succ, i64_w, i32_w]; rfl
                 refine done_ (done_of HT_.out (by kernel_rfl)) ?_
                 try go_wp2
                 go_roundg k4
                 case measure => have := HJ5.out; have := HK2.out; have := HK3.out; have := HK4.out; omega
                 case rel => exact ⟨(wrap64 (x95_4 + 1)), (by first | rfl | (simp [*]; done)), H', ⟨by have := HJ5.out; have := HK2.out; have := HK3.out; have := HK4.out; omega⟩, ⟨rx HO_3.out⟩, ⟨rx HO_4.out⟩, ⟨rx HO_6.out⟩, ⟨bx BK292.out⟩, ⟨lb⟩⟩
               ·
                rw [if_neg c52] at H
                have c52b0 : decide (x95_4 < (t294.length : Int)) = false := decide_eq_false c52
                clear c52
                have H' := ak H
                clear H
                go_wp2
                go_roundg k4
                case measure => have := HJ5.out; have := HK2.out; have := HK3.out; have := HK4.out; omega
                case rel => exact ⟨(x6_3), (wrap64 (x49_2 + 1)), (by first | rfl | (simp [*]; done)), H', ⟨by have := HJ5.out; have := HK2.out; have := HK3.out; have := HK4.out; omega⟩, ⟨rx HO_3.out⟩, ⟨rx HO_4.out⟩, ⟨rx HO_6.out⟩, ⟨bx BK292.out⟩, ⟨lb⟩⟩
        ·
         rw [if_neg c25] at H
         have c25b0 : decide (x49_2 < (t294.length : Int)) = false := decide_eq_false c25
         clear c25
         have H' := ak H
         clear H
         have hcz65_0 : wr.cell? ⟨gb292, 0, none⟩ = some (.int .i64 a0_0) := (blk_cell BK292.out 0).trans rfl
         have hcz65_1 : wr.cell? ⟨gb292, 1, none⟩ = some (.slice A0_1 l0_1.length c0_1) := (blk_cell BK292.out 1).trans rfl
         have hfz65_0 := blk_frozen BK292.out 0
         have hfz65_1 := blk_frozen BK292.out 1
         go_wp2
         go_loopg [134] k2 (fun kq v134 w' => ∃ (x134_3 : Int), v134 = .int .i64 x134_3 ∧ Aside0 (compasslaw04_WalkNests.l3 kq t294 t297 l0_1 (l0_1.length : Int) x134_3 = some r) ∧ Aside0 (kq ≤ k2) ∧ Aside0 (Kd.R (Kd.int .i64) 3 w' w.heap.size (fun k_ => some k_ ≠ (v298 : Value).ownBlock) (.slice Ao24 t294.length co24) t294) ∧ Aside0 (Kd.R (Kd.int .i64) 3 w' w.heap.size (fun k_ => some k_ ≠ ((.slice Ao24 t294.length co24) : Value).ownBlock) v298 t297) ∧ Aside0 (w'.heap[gb292]? = some (.cells #[.int .i64 a0_0, (.slice A0_1 l0_1.length c0_1)] 24 (0, 0))) ∧ Aside0 (Below w.heap.size w w'))
         case atStart => exact ⟨(0), (by first | rfl | (simp [*]; done)), H', ⟨Nat.le_refl _⟩, ⟨rx HO_3.out⟩, ⟨rx HO_4.out⟩, ⟨bx BK292.out⟩, ⟨lb⟩⟩
         case round =>
          clear H'
          try clear c2; try clear p2; try clear p3; try clear q3; try clear hx3; try clear c4; try clear c5; try clear c6; try clear p6; try clear c25; try clear c25b0; try clear c26; try clear c27; try clear c28; try clear p31; try clear q31; try clear hx31; try clear c47; try clear c48; try clear c49; try clear c52; try clear c52b0; try clear c53; try clear c54; try clear c55; try clear c56; try clear c57; try clear c57b0; try clear c58; try clear c59; try clear c59b0; try clear c60; try clear p64; try clear hcz65_0; try clear hcz65_1; try clear hfz65_0; try clear hfz65_1; try clear hx314_0; try clear hx315_0; try clear hx316_0; try clear hx317_0; try clear p314; try clear p315; try clear p316; try clear p317; try clear q314; try clear q315; try clear q316; try clear q317
          obtain ⟨x134_3, rfl, HA, HK3, HO_3, HO_4, BK292, HB⟩ := hrel
          cases gk with
          | zero => exact absurd HA.out (by simp [compasslaw04_WalkNests.l3])
          | succ k3 =>
           have H := HA.out
           clear HA
           simp only [compasslaw04_WalkNests.l3] at H
           by_cases c66 : x134_3 < (l0_1.length : Int)
           ·
            rw [if_pos c66] at H
            have c66b0 : decide (x134_3 < (l0_1.length : Int)) = true := decide_eq_true c66
            clear c66
            by_cases c67 : 0 ≤ x134_3
            rotate_left
            ·
             rw [if_neg c67] at H
             exact absurd H (by simp)
            rw [if_pos c67] at H
            have c67b0 : decide (0 ≤ x134_3) = true := decide_eq_true c67
            clear c67
            by_cases c68 : x134_3 < (l0_1.length : Int)
            rotate_left
            ·
             rw [if_neg c68] at H
             exact absurd H (by simp)
            rw [if_pos c68] at H
            have c68b0 : decide (x134_3 < (l0_1.length : Int)) = true := decide_eq_true c68
            clear c68
            by_cases c69 : 0 ≤ ((rd_T41 l0_1 x134_3).f0)
            rotate_left
            ·
             rw [if_neg c69] at H
             exact absurd H (by simp)
            rw [if_pos c69] at H
            have c69b0 : decide (0 ≤ ((rd_T41 l0_1 x134_3).f0)) = true := decide_eq_true c69
            clear c69
            by_cases c70 : ((rd_T41 l0_1 x134_3).f0) < (t297.length : Int)
            rotate_left
            ·
             rw [if_neg c70] at H
             exact absurd H (by simp)
            rw [if_pos c70] at H
            have c70b0 : decide (((rd_T41 l0_1 x134_3).f0) < (t297.length : Int)) = true := decide_eq_true c70
            clear c70
            by_cases c71 : 0 ≤ ((rd_T41 l0_1 x134_3).f1)
            rotate_left
            ·
             rw [if_neg c71] at H
             exact absurd H (by simp)
            rw [if_pos c71] at H
            have c71b0 : decide (0 ≤ ((rd_T41 l0_1 x134_3).f1)) = true := decide_eq_true c71
            clear c71
            by_cases c72 : ((rd_T41 l0_1 x134_3).f1) < (t294.length : Int)
            rotate_left
            ·
             rw [if_neg c72] at H
             exact absurd H (by simp)
            rw [if_pos c72] at H
            have c72b0 : decide (((rd_T41 l0_1 x134_3).f1) < (t294.length : Int)) = true := decide_eq_true c72
            clear c72
            by_cases c73 : (rd t297 ((rd_T41 l0_1 x134_3).f0)) < (rd t294 ((rd_T41 l0_1 x134_3).f1))
            ·
             rw [if_pos c73] at H
             have c73b0 : decide ((rd t297 ((rd_T41 l0_1 x134_3).f0)) < (rd t294 ((rd_T41 l0_1 x134_3).f1))) = true := decide_eq_true c73
             clear c73
             exact absurd ((Option.some.inj H).trans HR_.out) (by decide)
            ·
             rw [if_neg c73] at H
             have c73b0 : decide ((rd t297 ((rd_T41 l0_1 x134_3).f0)) < (rd t294 ((rd_T41 l0_1 x134_3).f1))) = false := decide_eq_false c73
             clear c73
             have H' := ak H
             clear H
             have p320 : 0 ≤ (x134_3 : Int) := oda
             have q320 : x134_3 < (l0_1.length : Int) := oda
             obtain ⟨ad320, e320, hx320_0, hx320_1, hx320_2, hx320_3⟩ := at_T41 HR0_1.out x134_3 p320 q320
             cases e320
             (try replace hx320_0 := (HB.out.cell (World.block_lt_of_cell? w _ hx320_0)).trans hx320_0)
             (try replace hx320_1 := (HB.out.cell (World.block_lt_of_cell? w _ hx320_1)).trans hx320_1)
             (try replace hx320_2 := (HB.out.cell (World.block_lt_of_cell? w _ hx320_2)).trans hx320_2)
             (try replace hx320_3 := (HB.out.cell (World.block_lt_of_cell? w _ hx320_3)).trans hx320_3)
             replace p320 := eq_true p320
             replace q320 := eq_true q320
             try go_wp2_with (first | ((with_reducible refine gate_dst (N := 12) rfl ?_); (try (refine gate_guard (by rfl) ?_; dsimp only)); refine box_event ?hg (N := 12) ?hd (cs := #[.int .i64 0, .int .i64 0, .int .i64 0, .int .i64 0]) (t := 41) ?hr ?_; (case hd => rfl); (case hg => rfl); (case hr => first | (go_simp; done) | (go_simp; rfl)); intro gb321 hg w74 hbox hb; have n0_ := ak (Kd.R_below (rx HO_3.out) hb); have n1_ := ak (Kd.R_below (rx HO_4.out) hb); have n2_ := ak (blk_below (bx BK292.out) hb); have n3_ := ak (below_step lb hb); have n4_ := ak (hbox); have n5_ := ak ((by rw [hg]; exact (below_size lb) : w.heap.size ≤ gb321)); have n6_ := ak ((by rw [hg]; exact (below_size lb) : w.heap.size ≤ gb321)); have n7_ := ak ((by rw [hg]; exact Nat.ne_of_lt (blk_lt (g := gb292) (o := .cells #[.int .i64 a0_0, .slice (some ad320) l0_1.length c0_1] 24 (0, 0)) (bx BK292.out)) : gb292 ≠ gb321)); have n8_ := ak ((by rw [hg]; exact Nat.ne_of_gt (blk_lt (g := gb292) (o := .cells #[.int .i64 a0_0, .slice (some ad320) l0_1.length c0_1] 24 (0, 0)) (bx BK292.out)) : gb321 ≠ gb292)); clear HO_3; clear HO_4; clear BK292; clear HB; have HO_3 := n0_; have HO_4 := n1_; have BK292 := n2_; have HB := n3_; have BK321 := n4_; have GW321 := n5_; have GE321 := n6_; have NB292_321 := n7_; have NB321_292 := n8_; clear n0_ n1_ n2_ n3_ n4_ n5_ n6_ n7_ n8_; clear hb hbox hg; have hnb75 := NB321_292.out; have hnc75 := NB292_321.out; have hcz76_0 : w74.cell? ⟨gb321, 0, none⟩ = some (.int .i64 0) := (blk_cell BK321.out 0).trans rfl; have hcz76_1 : w74.cell? ⟨gb321, 1, none⟩ = some (.int .i64 0) := (blk_cell BK321.out 1).trans rfl; have hcz76_2 : w74.cell? ⟨gb321, 2, none⟩ = some (.int .i64 0) := (blk_cell BK321.out 2).trans rfl; have hcz76_3 : w74.cell? ⟨gb321, 3, none⟩ = some (.int .i64 0) := (blk_cell BK321.out 3).trans rfl; have hfz76_0 := blk_frozen BK321.out 0; have hfz76_1 := blk_frozen BK321.out 1; have hfz76_2 := blk_frozen BK321.out 2; have hfz76_3 := blk_frozen BK321.out 3))
             have n0_ : Aside0 (Kd.R (Kd.int .i64) 3 ((((w74.setCell ⟨gb321, 0, none⟩ (.int .i64 ((rd_T41 l0_1 x134_3).f0))).setCell ⟨gb321, 1, none⟩ (.int .i64 ((rd_T41 l0_1 x134_3).f1))).setCell ⟨gb321, 2, none⟩ (.int .i64 ((rd_T41 l0_1 x134_3).f2))).setCell ⟨gb321, 3, none⟩ (.int .i64 ((rd_T41 l0_1 x134_3).f3))) w.heap.size (fun k_ => some k_ ≠ (v298 : Value).ownBlock) (.slice Ao24 t294.length co24) t294) := ⟨by exact rx (Kd.R_mono (Kd.R_far (p := ⟨gb321, 3, none⟩) (Kd.R_far (p := ⟨gb321, 2, none⟩) (Kd.R_far (p := ⟨gb321, 1, none⟩) (Kd.R_far (p := ⟨gb321, 0, none⟩) (Kd.R_types HO_3.out BK321.out (by decide)) (fun _ hk => hk.2) (.int .i64 ((rd_T41 l0_1 x134_3).f0))) (fun _ hk => hk.2) (.int .i64 ((rd_T41 l0_1 x134_3).f1))) (fun _ hk => hk.2) (.int .i64 ((rd_T41 l0_1 x134_3).f2))) (fun _ hk => hk.2) (.int .i64 ((rd_T41 l0_1 x134_3).f3))) (fun _ hk => hk.1))⟩
             have n1_ : Aside0 (Kd.R (Kd.int .i64) 3 ((((w74.setCell ⟨gb321, 0, none⟩ (.int .i64 ((rd_T41 l0_1 x134_3).f0))).setCell ⟨gb321, 1, none⟩ (.int .i64 ((rd_T41 l0_1 x134_3).f1))).setCell ⟨gb321, 2, none⟩ (.int .i64 ((rd_T41 l0_1 x134_3).f2))).setCell ⟨gb321, 3, none⟩ (.int .i64 ((rd_T41 l0_1 x134_3).f3))) w.heap.size (fun k_ => some k_ ≠ (.slice Ao24 t294.length co24 : Value).ownBlock) v298 t297) := ⟨by exact rx (Kd.R_mono (Kd.R_far (p := ⟨gb321, 3, none⟩) (Kd.R_far (p := ⟨gb321, 2, none⟩) (Kd.R_far (p := ⟨gb321, 1, none⟩) (Kd.R_far (p := ⟨gb321, 0, none⟩) (Kd.R_types HO_4.out BK321.out (by decide)) (fun _ hk => hk.2) (.int .i64 ((rd_T41 l0_1 x134_3).f0))) (fun _ hk => hk.2) (.int .i64 ((rd_T41 l0_1 x134_3).f1))) (fun _ hk => hk.2) (.int .i64 ((rd_T41 l0_1 x134_3).f2))) (fun _ hk => hk.2) (.int .i64 ((rd_T41 l0_1 x134_3).f3))) (fun _ hk => hk.1))⟩
             have n2_ : Aside0 (((((w74.setCell ⟨gb321, 0, none⟩ (.int .i64 ((rd_T41 l0_1 x134_3).f0))).setCell ⟨gb321, 1, none⟩ (.int .i64 ((rd_T41 l0_1 x134_3).f1))).setCell ⟨gb321, 2, none⟩ (.int .i64 ((rd_T41 l0_1 x134_3).f2))).setCell ⟨gb321, 3, none⟩ (.int .i64 ((rd_T41 l0_1 x134_3).f3))).heap[gb292]? = some (.cells #[.int .i64 a0_0, .slice (some ad320) l0_1.length c0_1] 24 (0, 0))) := ⟨by (with_reducible repeat (first | refine blk_drewN ?_ _ | refine blk_drew ?_ | refine blk_alloc ?_ _)); refine blk_far ?_ NB292_321.out _; (with_reducible repeat (first | refine blk_drewN ?_ _ | refine blk_drew ?_ | refine blk_alloc ?_ _)); refine blk_far ?_ NB292_321.out _; (with_reducible repeat (first | refine blk_drewN ?_ _ | refine blk_drew ?_ | refine blk_alloc ?_ _)); refine blk_far ?_ NB292_321.out _; (with_reducible repeat (first | refine blk_drewN ?_ _ | refine blk_drew ?_ | refine blk_alloc ?_ _)); refine blk_far ?_ NB292_321.out _; exact bx BK292.out⟩
             have n3_ : Aside0 (((((w74.setCell ⟨gb321, 0, none⟩ (.int .i64 ((rd_T41 l0_1 x134_3).f0))).setCell ⟨gb321, 1, none⟩ (.int .i64 ((rd_T41 l0_1 x134_3).f1))).setCell ⟨gb321, 2, none⟩ (.int .i64 ((rd_T41 l0_1 x134_3).f2))).setCell ⟨gb321, 3, none⟩ (.int .i64 ((rd_T41 l0_1 x134_3).f3))).heap[gb321]? = some (.cells #[.int .i64 ((rd_T41 l0_1 x134_3).f0), .int .i64 ((rd_T41 l0_1 x134_3).f1), .int .i64 ((rd_T41 l0_1 x134_3).f2), .int .i64 ((rd_T41 l0_1 x134_3).f3)] 41 (0, 0))) := ⟨by (with_reducible repeat (first | refine blk_drewN ?_ _ | refine blk_drew ?_ | refine blk_alloc ?_ _)); refine blk_put (cs := #[.int .i64 ((rd_T41 l0_1 x134_3).f0), .int .i64 ((rd_T41 l0_1 x134_3).f1), .int .i64 ((rd_T41 l0_1 x134_3).f2), .int .i64 0]) ?_ 3 _ rfl; (with_reducible repeat (first | refine blk_drewN ?_ _ | refine blk_drew ?_ | refine blk_alloc ?_ _)); refine blk_put (cs := #[.int .i64 ((rd_T41 l0_1 x134_3).f0), .int .i64 ((rd_T41 l0_1 x134_3).f1), .int .i64 0, .int .i64 0]) ?_ 2 _ rfl; (with_reducible repeat (first | refine blk_drewN ?_ _ | refine blk_drew ?_ | refine blk_alloc ?_ _)); refine blk_put (cs := #[.int .i64 ((rd_T41 l0_1 x134_3).f0), .int .i64 0, .int .i64 0, .int .i64 0]) ?_ 1 _ rfl; (with_reducible repeat (first | refine blk_drewN ?_ _ | refine blk_drew ?_ | refine blk_alloc ?_ _)); refine blk_put (cs := #[.int .i64 0, .int .i64 0, .int .i64 0, .int .i64 0]) ?_ 0 _ rfl; exact bx BK321.out⟩
             have n4_ : Aside0 (Below w.heap.size w ((((w74.setCell ⟨gb321, 0, none⟩ (.int .i64 ((rd_T41 l0_1 x134_3).f0))).setCell ⟨gb321, 1, none⟩ (.int .i64 ((rd_T41 l0_1 x134_3).f1))).setCell ⟨gb321, 2, none⟩ (.int .i64 ((rd_T41 l0_1 x134_3).f2))).setCell ⟨gb321, 3, none⟩ (.int .i64 ((rd_T41 l0_1 x134_3).f3)))) := ⟨lb⟩
             (try clear HO_3)
             (try clear HO_4)
             (try clear BK292)
             (try clear BK321)
             (try clear HB)
             generalize ((((w74.setCell ⟨gb321, 0, none⟩ (.int .i64 ((rd_T41 l0_1 x134_3).f0))).setCell ⟨gb321, 1, none⟩ (.int .i64 ((rd_T41 l0_1 x134_3).f1))).setCell ⟨gb321, 2, none⟩ (.int .i64 ((rd_T41 l0_1 x134_3).f2))).setCell ⟨gb321, 3, none⟩ (.int .i64 ((rd_T41 l0_1 x134_3).f3))) = w77 at n0_ n1_ n2_ n3_ n4_ ⊢
             have HO_3 := n0_
             have HO_4 := n1_
             have BK292 := n2_
             have BK321 := n3_
             have HB := n4_
             clear n0_ n1_ n2_ n3_ n4_
             have n0_ := ak (Kd.R_drew HO_3.out)
             have n1_ := ak (Kd.R_drew HO_4.out)
             have n2_ := ak (blk_drew BK292.out)
             have n3_ := ak (blk_drew BK321.out)
             have n4_ := ak (below_drew1 HB.out)
             clear HO_3
             clear HO_4
             clear BK292
             clear BK321
             clear HB
             have HO_3 := n0_
             have HO_4 := n1_
             have BK292 := n2_
             have BK321 := n3_
             have HB := n4_
             clear n0_ n1_ n2_ n3_ n4_
             obtain ⟨Ao79, co79, eo79⟩ := Kd.R_slice HO_4.out
             (first | subst eo79 | (injection eo79 with f1_ f2_ f3_; have f4_ := f1_.symm; have f5_ := f3_.symm; clear f1_ f2_ f3_; subst f4_; subst f5_))
             have p322 : 0 ≤ (((rd_T41 l0_1 x134_3).f0) : Int) := oda
             have q322 : ((rd_T41 l0_1 x134_3).f0) < (t297.length : Int) := oda
             obtain ⟨ad322, e322, hx322_0⟩ := Kd.at_int (Kd.R_reads' HO_4.out).2.2 ((rd_T41 l0_1 x134_3).f0) p322 q322
             cases e322
             replace p322 := eq_true p322
             replace q322 := eq_true q322
             have p323 : 0 ≤ (((rd_T41 l0_1 x134_3).f1) : Int) := oda
             have q323 : ((rd_T41 l0_1 x134_3).f1) < (t294.length : Int) := oda
             obtain ⟨ad323, e323, hx323_0⟩ := Kd.at_int (Kd.R_reads' HO_3.out).2.2 ((rd_T41 l0_1 x134_3).f1) p323 q323
             cases e323
             replace p323 := eq_true p323
             replace q323 := eq_true q323
             refine start_ (n := 11) (S := fun w' => w'.cell? ⟨gb321, 0, none⟩ = some (.int .i64 ((rd_T41 l0_1 x134_3).f0)) ∧ w'.cell? ⟨gb321, 1, none⟩ = some (.int .i64 ((rd_T41 l0_1 x134_3).f1)) ∧ w'.cell? ⟨gb321, 2, none⟩ = some (.int .i64 ((rd_T41 l0_1 x134_3).f2)) ∧ w'.cell? ⟨gb321, 3, none⟩ = some (.int .i64 ((rd_T41 l0_1 x134_3).f3)) ∧ w'.cell? (ad322.add (((rd_T41 l0_1 x134_3).f0)).toNat) = some (.int .i64 (rd t297 ((rd_T41 l0_1 x134_3).f0))) ∧ w'.cell? (ad323.add (((rd_T41 l0_1 x134_3).f1)).toNat) = some (.int .i64 (rd t294 ((rd_T41 l0_1 x134_3).f1)))) (ds := []) #[false, false, false, false, false, false, false, false, false, false, false] (by kernel_rfl) rfl rfl ⟨(blk_cell BK321.out 0).trans rfl, (blk_cell BK321.out 1).trans rfl, (blk_cell BK321.out 2).trans rfl, (blk_cell BK321.out 3).trans rfl, hx322_0, hx323_0⟩ (fun hHeld => ?_); refine with_tabW compasslaw04_WalkNests.tab31 compasslaw04_WalkNests.bits31 (fun HT_ HW_ => ?_)
             generalize w77.drew = w78 at HO_3 HO_4 BK292 BK321 HB hx322_0 hx323_0 hHeld ⊢
             refine pure_ (i := 0) (N := some 138) (v := ?_) (a' := ?_) #[true, false, false, false, false, false, false, false, false, false, false] rfl rfl (any_of HT_.out (by kernel_rfl)) (fun _ _ _ h => h) (Or.inl ⟨by rfl, ?_⟩) ?_ ?_; rotate_left; intro w'; go_simp; with_reducible rfl; rotate_left; simp only [Act.put, List.setIfInBounds_toArray, List.set_cons_zero, List.set_cons_succ, i64_w, i32_w]; rfl
             refine pure_ (i := 1) (N := some 139) (v := ?_) (a' := ?_) #[true, true, false, false, false, false, false, false, false, false, false] rfl rfl (any_of HT_.out (by kernel_rfl)) (fun _ _ _ h => h) (Or.inl ⟨by rfl, ?_⟩) ?_ ?_; rotate_left; intro w'; go_simp; with_reducible rfl; rotate_left; simp only [Act.put, List.setIfInBounds_toArray, List.set_cons_zero, List.set_cons_succ, i64_w, i32_w]; rfl
             refine pure_ (i := 5) (N := some 143) (v := ?_) (a' := ?_) #[true, true, false, false, false, true, false, false, false, false, false] rfl rfl (any_of HT_.out (by kernel_rfl)) (fun _ _ _ h => h) (Or.inl ⟨by rfl, ?_⟩) ?_ ?_; rotate_left; intro w'; go_simp; with_reducible rfl; rotate_left; simp only [Act.put, List.setIfInBounds_toArray, List.set_cons_zero, List.set_cons_succ, i64_w, i32_w]; rfl
             refine pure_ (i := 6) (N := some 144) (v := ?_) (a' := ?_) #[true, true, false, false, false, true, true, false, false, false, false] rfl rfl (any_of HT_.out (by kernel_rfl)) (fun _ _ _ h => h) (Or.inl ⟨by rfl, ?_⟩) ?_ ?_; rotate_left; intro w'; go_simp; with_reducible rfl; rotate_left; simp only [Act.put, List.setIfInBounds_toArray, List.set_cons_zero, List.set_cons_succ, i64_w, i32_w]; rfl
             refine take_ (i := 2) (N := some 140) (v := ?_) (a' := ?_) #[true, true, true, false, false, true, true, false, false, false, false] rfl rfl (take_ofW HT_.out HW_.out (by kernel_rfl)) (fun _ _ _ h => h) (Or.inl ⟨by rfl, ?_⟩) hHeld ?_ ?_; rotate_left; rintro w' ⟨s0, s1, s2, s3, s4, s5⟩; go_simp; with_reducible rfl; rotate_left; simp only [Act.put, List.setIfInBounds_toArray, List.set_cons_zero, List.set_cons_succ, i64_w, i32_w]; rfl
             refine pure_ (i := 3) (N := some 141) (v := ?_) (a' := ?_) #[true, true, true, true, false, true, true, false, false, false, false] rfl rfl (any_of HT_.out (by kernel_rfl)) (fun _ _ _ h => h) (Or.inl ⟨by rfl, ?_⟩) ?_ ?_; rotate_left; intro w'; go_simp; with_reducible rfl; rotate_left; simp only [Act.put, List.setIfInBounds_toArray, List.set_cons_zero, List.set_cons_succ, i64_w, i32_w]; rfl
             refine take_ (i := 4) (N := some 142) (v := ?_) (a' := ?_) #[true, true, true, true, true, true, true, false, false, false, false] rfl rfl (take_ofW HT_.out HW_.out (by kernel_rfl)) (fun _ _ _ h => h) (Or.inl ⟨by rfl, ?_⟩) hHeld ?_ ?_; rotate_left; rintro w' ⟨s0, s1, s2, s3, s4, s5⟩; go_simp; with_reducible rfl; rotate_left; simp only [Act.put, List.setIfInBounds_toArray, List.set_cons_zero, List.set_cons_succ, i64_w, i32_w]; rfl
             refine take_ (i := 7) (N := some 145) (v := ?_) (a' := ?_) #[true, true, true, true, true, true, true, true, false, false, false] rfl rfl (take_ofW HT_.out HW_.out (by kernel_rfl)) (fun _ _ _ h => h) (Or.inl ⟨by rfl, ?_⟩) hHeld ?_ ?_; rotate_left; rintro w' ⟨s0, s1, s2, s3, s4, s5⟩; go_simp; with_reducible rfl; rotate_left; simp only [Act.put, List.setIfInBounds_toArray, List.set_cons_zero, List.set_cons_succ, i64_w, i32_w]; rfl
             refine pure_ (i := 8) (N := some 146) (v := ?_) (a' := ?_) #[true, true, true, true, true, true, true, true, true, false, false] rfl rfl (any_of HT_.out (by kernel_rfl)) (fun _ _ _ h => h) (Or.inl ⟨by rfl, ?_⟩) ?_ ?_; rotate_left; intro w'; go_simp; with_reducible rfl; rotate_left; simp only [Act.put, List.setIfInBounds_toArray, List.set_cons_zero, List.set_cons_succ, i64_w, i32_w]; rfl
             refine take_ (i := 9) (N := some 147) (v := ?_) (a' := ?_) #[true, true, true, true, true, true, true, true, true, true, false] rfl rfl (take_ofW HT_.out HW_.out (by kernel_rfl)) (fun _ _ _ h => h) (Or.inl ⟨by rfl, ?_⟩) hHeld ?_ ?_; rotate_left; rintro w' ⟨s0, s1, s2, s3, s4, s5⟩; go_simp; with_reducible rfl; rotate_left; simp only [Act.put, List.setIfInBounds_toArray, List.set_cons_zero, List.set_cons_succ, i64_w, i32_w]; rfl
             refine pure_ (i := 10) (N := some 148) (v := ?_) (a' := ?_) #[true, true, true, true, true, true, true, true, true, true, true] rfl rfl (any_of HT_.out (by kernel_rfl)) (fun _ _ _ h => h) (Or.inl ⟨by rfl, ?_⟩) ?_ ?_; rotate_left; intro w'; go_simp; with_reducible rfl; rotate_left; simp only [Act.put, List.setIfInBounds_toArray, List.set_cons_zero, List.set_cons_succ, i64_w, i32_w]; rfl
             refine done_ (done_of HT_.out (by kernel_rfl)) ?_
             try go_wp2
             go_roundg k3
             case measure => have := HJ5.out; have := HK2.out; have := HK3.out; omega
             case rel => exact ⟨(wrap64 (x134_3 + 1)), (by first | rfl | (simp [*]; done)), H', ⟨by have := HJ5.out; have := HK2.out; have := HK3.out; omega⟩, ⟨rx HO_3.out⟩, ⟨rx HO_4.out⟩, ⟨bx BK292.out⟩, ⟨lb⟩⟩
           ·
            rw [if_neg c66] at H
            have c66b0 : decide (x134_3 < (l0_1.length : Int)) = false := decide_eq_false c66
            clear c66
            obtain rfl := Option.some.inj H
            go_wp2
            go_ret
            exact ⟨by first | rfl | (simp [errW_none, errW_some] <;> rfl) | (simp only [← hji18]; first | rfl | (simp [errW_none, errW_some] <;> rfl)) | (simp [*, errW_none, errW_some] <;> rfl), lb⟩
  ·
   rw [if_neg c5] at H
   have c5b0 : (t300 == 0) = false := beq_eq_false_iff_ne.mpr c5
   have c5b1 : (t300 != 0) = true := bne_iff_ne.mpr c5
   by_cases c80 : (t294.length : Int) = 0
   ·
    rw [if_pos c80] at H
    have c80b0 : ((t294.length : Int) == 0) = true := beq_iff_eq.mpr c80
    have c80b1 : ((t294.length : Int) != 0) = false := bne_eq_false_iff_eq.mpr c80
    clear c80
    obtain rfl := Option.some.inj H
    go_enter Try.func8, Try.ntmps8
    go_wp2_with (first | ((with_reducible refine gate_dst (N := 1) rfl ?_); (try (refine gate_guard (by rfl) ?_; dsimp only)); refine box_event ?hg (N := 1) ?hd (cs := #[.int .i64 a0_0, .slice A0_1 l0_1.length c0_1]) (t := 24) ?hr ?_; (case hd => rfl); (case hg => rfl); (case hr => first | (go_simp; done) | (go_simp; rfl)); intro gb292 hg w81 hbox hb; have n0_ := ak (below_step lb hb); have n1_ := ak (hbox); have n2_ := ak ((by rw [hg]; exact (below_size lb) : w.heap.size ≤ gb292)); have n3_ := ak ((by rw [hg]; exact (below_size lb) : w.heap.size ≤ gb292)); clear HB; have HB := n0_; have BK292 := n1_; have GW292 := n2_; have GE292 := n3_; clear n0_ n1_ n2_ n3_; clear hb hbox hg) | ((with_reducible refine gate_callee (f := 12) rfl ?_); refine goesL_ (some 13) rfl rfl Try.func12 (by kernel_rfl) rfl #[] rfl (by (try simp only [List.map_toArray, List.map_cons, List.map_nil]); first | done | rfl | (simp only [List.length_drop, List.length_take]; rfl)) ?_; (with_reducible refine (compasslaw04_awake.calls k  true _ A2.out).mono ?_); rintro e w82 ⟨rfl, hb⟩; refine ⟨_, rfl, ?_⟩; have n0_ := ak (blk_below (bx BK292.out) hb); have n1_ := ak (below_step lb hb); clear BK292; clear HB; have BK292 := n0_; have HB := n1_; clear n0_ n1_; (try clear hb); (try clear hb2); (try clear hk); (try clear hi); have hcz83_0 : w82.cell? ⟨gb292, 0, none⟩ = some (.int .i64 a0_0) := (blk_cell BK292.out 0).trans rfl; have hcz83_1 : w82.cell? ⟨gb292, 1, none⟩ = some (.slice A0_1 l0_1.length c0_1) := (blk_cell BK292.out 1).trans rfl; have hfz83_0 := blk_frozen BK292.out 0; have hfz83_1 := blk_frozen BK292.out 1) | ((with_reducible refine gate_callee (f := 19) rfl ?_); refine goesL_ (some 17) rfl rfl Try.func19 (by kernel_rfl) rfl #[.agg #[.int .i64 a0_0, .slice A0_1 l0_1.length c0_1]] rfl (by (try simp only [List.map_toArray, List.map_cons, List.map_nil]); first | done | rfl | (simp only [List.length_drop, List.length_take]; rfl)) ?_; (with_reducible refine (walk_Visit.calls k a0_0 _ _ l0_1 t294 t297 t300 _ ?side1 ?side2 A4.out).mono ?_); (case side1 => repeat (first | exact (Kd.C_below HR0_1.out HB.out) | (with_reducible refine Kd.C_alloc ?_ _) | (with_reducible refine Kd.C_drewN ?_ _) | (with_reducible refine Kd.C_drew ?_))); (case side2 => exact HC0_1.out); rintro e w84 ⟨v295, v298, rfl, ho0, ho1, hb⟩; refine ⟨_, rfl, ?_⟩; have n0_ := ak (Kd.R_lower ho0 (below_size lb)); have n1_ := ak (Kd.R_lower ho1 (below_size lb)); have n2_ := ak (blk_below (bx BK292.out) hb); have n3_ := ak (below_step lb hb); clear BK292; clear HB; have HO296 := n0_; have HO299 := n1_; have BK292 := n2_; have HB := n3_; clear n0_ n1_ n2_ n3_; (try clear hb); (try clear hb2); (try clear hk); (try clear hi); (try clear ho0); (try clear ho1); obtain ⟨Ao85, co85, eo85⟩ := Kd.R_slice HO296.out; subst eo85; obtain ⟨Ao86, co86, eo86⟩ := Kd.R_slice HO299.out; subst eo86))
    go_ret
    exact ⟨by first | rfl | (simp [errW_none, errW_some] <;> rfl) | (simp [*, errW_none, errW_some] <;> rfl), lb⟩
   ·
    rw [if_neg c80] at H
    have c80b0 : ((t294.length : Int) == 0) = false := beq_eq_false_iff_ne.mpr c80
    have c80b1 : ((t294.length : Int) != 0) = true := bne_iff_ne.mpr c80
    have c80b2 : ¬ (t294 = []) := fun h_ => c80 (by rw [h_]; rfl)
    exact absurd ((Option.some.inj H).trans HR_.out) (by decide)
 ·
  replace c3 := Bool.eq_false_iff.mpr c3
  subst c3
  have H1 : (some false) = some r := by rw [if_neg (show ¬ (false = true) by decide)] at H; exact H
  clear H
  have H := H1
  clear H1
  exact absurd ((Option.some.inj H).trans HR_.out) (by decide)

end Go.Proofs.Ytacklfnnpiobgaa.Q
