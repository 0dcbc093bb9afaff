-- PRINTED by print.py (a twelfth state) out of the translation. Not trusted: Lean checks it.
import Derived.Test.YtacklfnnpiobgaaQ0
namespace Go.Proofs.Ytacklfnnpiobgaa.Q
open Go.RowKit Go.Proofs.YtacklfnnpiobgaaW.PrintWords Go.Proofs.YtacklfnnpiobgaaW.PrintLast Go.Proofs.YtacklfnnpiobgaaW.PrintMore
attribute [local go_sem] max2_int min2_int max_two min_two max_three min_three max_four min_four   -- for this text's walks alone
set_option linter.unusedVariables false
set_option linter.unusedSimpArgs false

/-! ### compassref04_Circle: function 18 -/
mutual
def compassref04_Circle.j0 : Nat → List Int → Bool → Int → List (S41) → Option (Bool)
  | 0, _, _, _, _ => none
  | k + 1, x1, x18, x281000, x281001 => if x18 = true then (some false) else (if 0 ≤ x281000 then (if (x281000 : Int).toNat ≤ 281474976710656 then (compassref04_Circle.l0 k x1 (List.replicate (x281000 : Int).toNat false) 0 x281000 x281001) else (none)) else (none))
def compassref04_Circle.l0 : Nat → List Int → List Bool → Int → Int → List (S41) → Option (Bool)
  | 0, _, _, _, _, _ => none
  | k + 1, x1, x5, x6, x281000, x281001 => if x6 < (x1.length : Int) then (if 0 ≤ x6 then (if (rd x1 x6) < 0 then (compassref04_Circle.j2 k x1 x5 x6 true x281000 x281001) else (compassref04_Circle.j2 k x1 x5 x6 (decide ((rd x1 x6) ≥ (x281001.length : Int))) x281000 x281001)) else (none)) else (some true)
def compassref04_Circle.j2 : Nat → List Int → List Bool → Int → Bool → Int → List (S41) → Option (Bool)
  | 0, _, _, _, _, _, _ => none
  | k + 1, x1, x5, x6, x42, x281000, x281001 => if x42 = true then (some false) else (if (x1.length : Int) = 0 then (none) else (if 0 ≤ (Int.tmod (wrap64 (x6 + 1)) (x1.length : Int)) then (if (Int.tmod (wrap64 (x6 + 1)) (x1.length : Int)) < (x1.length : Int) then (if (rd x1 (Int.tmod (wrap64 (x6 + 1)) (x1.length : Int))) < 0 then (some false) else (if (rd x1 (Int.tmod (wrap64 (x6 + 1)) (x1.length : Int))) ≥ (x281001.length : Int) then (some false) else (if 0 ≤ x6 then (if x6 < (x1.length : Int) then (if 0 ≤ (rd x1 x6) then (if (rd x1 x6) < (x281001.length : Int) then (if 0 ≤ (rd x1 (Int.tmod (wrap64 (x6 + 1)) (x1.length : Int))) then (if (rd x1 (Int.tmod (wrap64 (x6 + 1)) (x1.length : Int))) < (x281001.length : Int) then (if ((rd_T41 x281001 (rd x1 x6)).f1) = ((rd_T41 x281001 (rd x1 (Int.tmod (wrap64 (x6 + 1)) (x1.length : Int)))).f0) then (if 0 ≤ ((rd_T41 x281001 (rd x1 x6)).f1) then (if ((rd_T41 x281001 (rd x1 x6)).f1) < (x5.length : Int) then (if rdOf false x5 ((rd_T41 x281001 (rd x1 x6)).f1) = true then (some false) else (compassref04_Circle.l0 k x1 (x5.set (((rd_T41 x281001 (rd x1 x6)).f1) : Int).toNat true) (wrap64 (x6 + 1)) x281000 x281001)) else (none)) else (none)) else (some false)) else (none)) else (none)) else (none)) else (none)) else (none)) else (none)))) else (none)) else (none)))
end
def compassref04_Circle.f (k : Nat) (a0_0 : Int) (l0_1 : List (S41)) (l1 : List Int) : Option (Bool) := if (l1.length : Int) = 0 then (compassref04_Circle.j0 k l1 true a0_0 l0_1) else (compassref04_Circle.j0 k l1 (decide ((l1.length : Int) > (l0_1.length : Int))) a0_0 l0_1)
theorem compassref04_Circle.mono_l : ∀ k, (∀ y0 y1 y2 y3, LeO (compassref04_Circle.j0 k y0 y1 y2 y3) (compassref04_Circle.j0 (k + 1) y0 y1 y2 y3)) ∧ (∀ y0 y1 y2 y3 y4, LeO (compassref04_Circle.l0 k y0 y1 y2 y3 y4) (compassref04_Circle.l0 (k + 1) y0 y1 y2 y3 y4)) ∧ (∀ y0 y1 y2 y3 y4 y5, LeO (compassref04_Circle.j2 k y0 y1 y2 y3 y4 y5) (compassref04_Circle.j2 (k + 1) y0 y1 y2 y3 y4 y5))
  | 0 => ⟨fun _ _ _ _ r h => by simp [compassref04_Circle.j0] at h, fun _ _ _ _ _ r h => by simp [compassref04_Circle.l0] at h, fun _ _ _ _ _ _ r h => by simp [compassref04_Circle.j2] at h⟩
  | k + 1 => by
    obtain ⟨ih0, ih1, ih2⟩ := compassref04_Circle.mono_l k
    refine ⟨?_, ?_, ?_⟩
    · intro y0 y1 y2 y3
      unfold compassref04_Circle.j0
      repeat' first
      | (with_reducible exact ih0 _ _ _ _)
      | (with_reducible exact ih1 _ _ _ _ _)
      | (with_reducible exact ih2 _ _ _ _ _ _)
      | (with_reducible exact LeO.refl _)
      | (with_reducible exact LeO.none _)
      | (with_reducible refine LeO.ite ?_ ?_)
      | (with_reducible refine LeO.bind ?_ (fun _ => ?_))
      | exact ih0 _ _ _ _
      | exact ih1 _ _ _ _ _
      | exact ih2 _ _ _ _ _ _
      | exact LeO.none _
      | refine LeO.ite ?_ ?_
      | refine LeO.bind ?_ (fun _ => ?_)
    · intro y0 y1 y2 y3 y4
      unfold compassref04_Circle.l0
      repeat' first
      | (with_reducible exact ih0 _ _ _ _)
      | (with_reducible exact ih1 _ _ _ _ _)
      | (with_reducible exact ih2 _ _ _ _ _ _)
      | (with_reducible exact LeO.refl _)
      | (with_reducible exact LeO.none _)
      | (with_reducible refine LeO.ite ?_ ?_)
      | (with_reducible refine LeO.bind ?_ (fun _ => ?_))
      | exact ih0 _ _ _ _
      | exact ih1 _ _ _ _ _
      | exact ih2 _ _ _ _ _ _
      | exact LeO.none _
      | refine LeO.ite ?_ ?_
      | refine LeO.bind ?_ (fun _ => ?_)
    · intro y0 y1 y2 y3 y4 y5
      unfold compassref04_Circle.j2
      repeat' first
      | (with_reducible exact ih0 _ _ _ _)
      | (with_reducible exact ih1 _ _ _ _ _)
      | (with_reducible exact ih2 _ _ _ _ _ _)
      | (with_reducible exact LeO.refl _)
      | (with_reducible exact LeO.none _)
      | (with_reducible refine LeO.ite ?_ ?_)
      | (with_reducible refine LeO.bind ?_ (fun _ => ?_))
      | exact ih0 _ _ _ _
      | exact ih1 _ _ _ _ _
      | exact ih2 _ _ _ _ _ _
      | exact LeO.none _
      | refine LeO.ite ?_ ?_
      | refine LeO.bind ?_ (fun _ => ?_)
theorem compassref04_Circle.mono : ∀ a0 a1 a2 k, LeO (compassref04_Circle.f k a0 a1 a2) (compassref04_Circle.f (k + 1) a0 a1 a2) := by
  intro a0 a1 a2 k
  obtain ⟨ih0, ih1, ih2⟩ := compassref04_Circle.mono_l k
  unfold compassref04_Circle.f
  repeat' first
      | (with_reducible exact ih0 _ _ _ _)
      | (with_reducible exact ih1 _ _ _ _ _)
      | (with_reducible exact ih2 _ _ _ _ _ _)
      | (with_reducible exact LeO.refl _)
      | (with_reducible exact LeO.none _)
      | (with_reducible refine LeO.ite ?_ ?_)
      | (with_reducible refine LeO.bind ?_ (fun _ => ?_))
      | exact ih0 _ _ _ _
      | exact ih1 _ _ _ _ _
      | exact ih2 _ _ _ _ _ _
      | exact LeO.none _
      | refine LeO.ite ?_ ?_
      | refine LeO.bind ?_ (fun _ => ?_)
def compassref04_Circle.T7 : Bool × List (List Nat × List Nat) := (true, [([], []), ([], []), ([0, 1], [0, 1]), ([2], [2]), ([3], [3]), ([4], [4]), ([5], [5]), ([5], [5]), ([6, 7, 5], [5, 6, 7]), ([8, 5], [5, 8]), ([5], [5]), ([10, 5], [5, 10]), ([11, 5], [5, 11]), ([9, 12, 5], [5, 9, 12]), ([5, 13], [5, 13])])
def compassref04_Circle.B7 : List Nat := [0, 0, 3, 7, 15, 31, 63, 63, 255, 511, 63, 1087, 3135, 8191, 16383]
theorem compassref04_Circle.tab7 : rtab .any (opsOf Try.f18 7) = compassref04_Circle.T7 := by kernel_rfl
theorem compassref04_Circle.bits7 : waitsOk compassref04_Circle.T7.2 compassref04_Circle.B7 = true := by kernel_rfl
def compassref04_Circle.T10 : Bool × List (List Nat × List Nat) := (true, [([], []), ([0], [0]), ([1], [1]), ([2], [2]), ([2], [2]), ([4, 2], [2, 4]), ([5, 2], [2, 5]), ([3, 6, 2], [2, 3, 6]), ([2, 7], [2, 7]), ([8, 2], [8]), ([9], [9]), ([10, 9], [9, 10]), ([9], [9]), ([9], [9]), ([12, 13, 9], [9, 12, 13]), ([14, 9], [9, 14]), ([11, 15, 9], [9, 11, 15]), ([16, 9], [9, 16]), ([17, 9], [9, 17]), ([9], [9]), ([19, 9], [9, 19]), ([9], [9]), ([20, 21, 9], [9, 20, 21]), ([22, 9], [9, 22]), ([23, 9], [9, 23]), ([18, 24, 9], [9, 18, 24]), ([9, 25], [9, 25]), ([26, 9], [26]), ([27], [27]), ([27], [27]), ([29, 27], [27, 29]), ([27], [27]), ([27], [27]), ([31, 32, 27], [27, 31, 32]), ([33, 27], [27, 33]), ([30, 34, 27], [27, 30, 34]), ([35, 27], [27, 35]), ([36, 27], [27, 36]), ([28, 37, 27], [27, 28, 37]), ([38, 27], [27, 38]), ([27, 39], [27, 39])])
def compassref04_Circle.B10 : List Nat := [0, 1, 3, 7, 7, 23, 55, 127, 255, 511, 1023, 2047, 1023, 1023, 13311, 29695, 65535, 131071, 262143, 1023, 525311, 1023, 3671039, 7865343, 16253951, 33554431, 67108863, 134217727, 268435455, 268435455, 805306367, 268435455, 268435455, 6710886399, 15300820991, 34091302911, 68451041279, 137170518015, 274877906943, 549755813887, 1099511627775]
theorem compassref04_Circle.tab10 : rtab .any (opsOf Try.f18 10) = compassref04_Circle.T10 := by kernel_rfl
theorem compassref04_Circle.bits10 : waitsOk compassref04_Circle.T10.2 compassref04_Circle.B10 = true := by kernel_rfl
def compassref04_Circle.T12 : Bool × List (List Nat × List Nat) := (true, [([], []), ([], []), ([1], [1]), ([], []), ([], []), ([3, 4], [3, 4]), ([5], [5]), ([2, 6], [2, 6]), ([7], [7]), ([8], [8]), ([0, 9, 0, 1, 2, 3, 4, 5, 6, 7, 8, 9], [0, 9]), ([10, 0, 1, 2, 3, 4, 5, 6, 7, 8, 9], [10])])
def compassref04_Circle.B12 : List Nat := [0, 0, 2, 0, 0, 24, 56, 126, 254, 510, 1023, 2047]
theorem compassref04_Circle.tab12 : rtab .any (opsOf Try.f18 12) = compassref04_Circle.T12 := by kernel_rfl
theorem compassref04_Circle.bits12 : waitsOk compassref04_Circle.T12.2 compassref04_Circle.B12 = true := by kernel_rfl

end Go.Proofs.Ytacklfnnpiobgaa.Q
