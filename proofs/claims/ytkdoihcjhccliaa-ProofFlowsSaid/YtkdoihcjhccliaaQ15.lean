-- PRINTED by print.py (a twelfth state) out of the translation. Not trusted: Lean checks it.
import Derived.Test.YtkdoihcjhccliaaQ0
import Derived.Test.YtkdoihcjhccliaaQ3
import Derived.Test.YtkdoihcjhccliaaQ5
import Derived.Test.YtkdoihcjhccliaaQ10
import Derived.Test.YtkdoihcjhccliaaQ14
namespace Go.Proofs.Ytkdoihcjhccliaa.Q
open Go.RowKit Go.Proofs.YtkdoihcjhccliaaW.PrintWords Go.Proofs.YtkdoihcjhccliaaW.PrintLast Go.Proofs.YtkdoihcjhccliaaW.PrintMore
attribute [local go_sem] max2_int min2_int max_two min_two max_three min_three max_four min_four   -- for this text's walks alone
set_option linter.unusedVariables false
set_option linter.unusedSimpArgs false

/-! ### proof_Postman_1: function 66 -/
mutual
def proof_Postman_1.l0 : Nat → List (S98) → Int → Int → Int → List (S98) → List Int → List Int → Int → Option (Int × Int)
  | 0, _, _, _, _, _, _, _, _ => none
  | k + 1, x17, x18, x19, x201000, x201001, x202000, x202001, x203000 => if x19 < x18 then (if 0 ≤ x19 then (if x19 < (x17.length : Int) then (if ((rd_T98 x17 x19).f3) ≥ 0 then (proof_Postman_1.l0 k x17 x18 (wrap64 (x19 + 1)) x201000 x201001 x202000 x202001 x203000) else (some (80, x203000))) else (none)) else (none)) else (if (x202000.length : Int) = (x201001.length : Int) then (if 0 ≤ x201000 then (if (x201000 : Int).toNat ≤ 35184372088832 then (proof_Postman_1.l1 k (List.replicate (x201000 : Int).toNat 0) x201001 (x201001.length : Int) 0 x201000 x201001 x202000 x202001 x203000) else (none)) else (none)) else (some (221, x203000)))
def proof_Postman_1.l1 : Nat → List Int → List (S98) → Int → Int → Int → List (S98) → List Int → List Int → Int → Option (Int × Int)
  | 0, _, _, _, _, _, _, _, _, _ => none
  | k + 1, x5, x40, x41, x42, x201000, x201001, x202000, x202001, x203000 => if x42 < x41 then (if 0 ≤ x42 then (if x42 < (x40.length : Int) then (if x42 < (x202000.length : Int) then (if (rd x202000 x42) ≥ 1 then (if (rd x202000 x42) ≤ 1048576 then (if 0 ≤ ((rd_T98 x40 x42).f0) then (if ((rd_T98 x40 x42).f0) < (x5.length : Int) then ((some (x5.set (((rd_T98 x40 x42).f0) : Int).toNat (wrap64 ((rd x5 ((rd_T98 x40 x42).f0)) + (rd x202000 x42))) : List Int)).bind fun y215 => (if 0 ≤ ((rd_T98 x40 x42).f1) then (if ((rd_T98 x40 x42).f1) < (x5.length : Int) then (proof_Postman_1.l1 k (y215.set (((rd_T98 x40 x42).f1) : Int).toNat (wrap64 ((rd y215 ((rd_T98 x40 x42).f1)) - (rd x202000 x42)))) x40 x41 (wrap64 (x42 + 1)) x201000 x201001 x202000 x202001 x203000) else (none)) else (none))) else (none)) else (none)) else (some (221, x203000))) else (some (221, x203000))) else (none)) else (none)) else (none)) else (proof_Postman_1.l2 k x5 (x5.length : Int) 0 x201000 x201001 x202000 x202001 x203000)
def proof_Postman_1.l2 : Nat → List Int → Int → Int → Int → List (S98) → List Int → List Int → Int → Option (Int × Int)
  | 0, _, _, _, _, _, _, _, _ => none
  | k + 1, x87, x88, x89, x201000, x201001, x202000, x202001, x203000 => if x89 < x88 then (if 0 ≤ x89 then (if x89 < (x87.length : Int) then (if (rd x87 x89) = 0 then (proof_Postman_1.l2 k x87 x88 (wrap64 (x89 + 1)) x201000 x201001 x202000 x202001 x203000) else (some (221, x203000))) else (none)) else (none)) else ((proof_together.f k x201000 x201001).bind fun t220 => (if t220 = true then ((proof_reduced.f k x201000 x201001 x202001 1).bind fun bt221 => (if bt221.1 = 0 then (proof_Postman_1.l3 k bt221.2 (bt221.2.length : Int) 0 x201000 x201001 x202000 x202001 x203000) else (some (bt221.1, x203000)))) else (some (221, x203000))))
def proof_Postman_1.l3 : Nat → List Int → Int → Int → Int → List (S98) → List Int → List Int → Int → Option (Int × Int)
  | 0, _, _, _, _, _, _, _, _ => none
  | k + 1, x103, x104, x105, x201000, x201001, x202000, x202001, x203000 => if x105 < x104 then (if 0 ≤ x105 then (if x105 < (x103.length : Int) then (if (rd x103 x105) = 0 then (proof_Postman_1.l3 k x103 x104 (wrap64 (x105 + 1)) x201000 x201001 x202000 x202001 x203000) else (if (rd x103 x105) > 0 then (if x105 < (x202000.length : Int) then (if (rd x202000 x105) = 1 then (proof_Postman_1.l3 k x103 x104 (wrap64 (x105 + 1)) x201000 x201001 x202000 x202001 x203000) else (some (221, x203000))) else (none)) else (some (221, x203000)))) else (none)) else (none)) else (proof_Postman_1.l4 k x201001 (x201001.length : Int) 0 x202000 x202001 x203000)
def proof_Postman_1.l4 : Nat → List (S98) → Int → Int → List Int → List Int → Int → Option (Int × Int)
  | 0, _, _, _, _, _, _ => none
  | k + 1, x127, x128, x129, x202000, x202001, x203000 => if x129 < x128 then (if 0 ≤ x129 then (if x129 < (x127.length : Int) then (if x129 < (x202000.length : Int) then (proof_Postman_1.l4 k x127 x128 (wrap64 (x129 + 1)) x202000 x202001 (wrap64 (x203000 + (wrap64 (((rd_T98 x127 x129).f3) * (rd x202000 x129)))))) else (none)) else (none)) else (none)) else (some (0, x203000))
end
def proof_Postman_1.f (k : Nat) (a0_0 : Int) (l0_1 : List (S98)) (l1_0 : List Int) (l1_1 : List Int) (a2 : Int) : Option (Int × Int) := (proof_right.f k a0_0 l0_1).bind fun t203 => (if t203 = 0 then (proof_Postman_1.l0 k l0_1 (l0_1.length : Int) 0 a0_0 l0_1 l1_0 l1_1 a2) else (some (t203, a2)))
theorem proof_Postman_1.mono_l : ∀ k, (∀ y0 y1 y2 y3 y4 y5 y6 y7, LeO (proof_Postman_1.l0 k y0 y1 y2 y3 y4 y5 y6 y7) (proof_Postman_1.l0 (k + 1) y0 y1 y2 y3 y4 y5 y6 y7)) ∧ (∀ y0 y1 y2 y3 y4 y5 y6 y7 y8, LeO (proof_Postman_1.l1 k y0 y1 y2 y3 y4 y5 y6 y7 y8) (proof_Postman_1.l1 (k + 1) y0 y1 y2 y3 y4 y5 y6 y7 y8)) ∧ (∀ y0 y1 y2 y3 y4 y5 y6 y7, LeO (proof_Postman_1.l2 k y0 y1 y2 y3 y4 y5 y6 y7) (proof_Postman_1.l2 (k + 1) y0 y1 y2 y3 y4 y5 y6 y7)) ∧ (∀ y0 y1 y2 y3 y4 y5 y6 y7, LeO (proof_Postman_1.l3 k y0 y1 y2 y3 y4 y5 y6 y7) (proof_Postman_1.l3 (k + 1) y0 y1 y2 y3 y4 y5 y6 y7)) ∧ (∀ y0 y1 y2 y3 y4 y5, LeO (proof_Postman_1.l4 k y0 y1 y2 y3 y4 y5) (proof_Postman_1.l4 (k + 1) y0 y1 y2 y3 y4 y5))
  | 0 => ⟨fun _ _ _ _ _ _ _ _ r h => by simp [proof_Postman_1.l0] at h, fun _ _ _ _ _ _ _ _ _ r h => by simp [proof_Postman_1.l1] at h, fun _ _ _ _ _ _ _ _ r h => by simp [proof_Postman_1.l2] at h, fun _ _ _ _ _ _ _ _ r h => by simp [proof_Postman_1.l3] at h, fun _ _ _ _ _ _ r h => by simp [proof_Postman_1.l4] at h⟩
  | k + 1 => by
    obtain ⟨ih0, ih1, ih2, ih3, ih4⟩ := proof_Postman_1.mono_l k
    refine ⟨?_, ?_, ?_, ?_, ?_⟩
    · intro y0 y1 y2 y3 y4 y5 y6 y7
      unfold proof_Postman_1.l0
      repeat' first
      | (with_reducible exact ih0 _ _ _ _ _ _ _ _)
      | (with_reducible exact ih1 _ _ _ _ _ _ _ _ _)
      | (with_reducible exact ih2 _ _ _ _ _ _ _ _)
      | (with_reducible exact ih3 _ _ _ _ _ _ _ _)
      | (with_reducible exact ih4 _ _ _ _ _ _)
      | (with_reducible exact proof_reduced.mono _ _ _ _ _)
      | (with_reducible exact proof_right.mono _ _ _)
      | (with_reducible exact proof_together.mono _ _ _)
      | (with_reducible exact LeO.refl _)
      | (with_reducible exact LeO.none _)
      | (with_reducible refine LeO.ite ?_ ?_)
      | (with_reducible refine LeO.bind ?_ (fun _ => ?_))
      | exact ih0 _ _ _ _ _ _ _ _
      | exact ih1 _ _ _ _ _ _ _ _ _
      | exact ih2 _ _ _ _ _ _ _ _
      | exact ih3 _ _ _ _ _ _ _ _
      | exact ih4 _ _ _ _ _ _
      | exact proof_reduced.mono _ _ _ _ _
      | exact proof_right.mono _ _ _
      | exact proof_together.mono _ _ _
      | exact LeO.none _
      | refine LeO.ite ?_ ?_
      | refine LeO.bind ?_ (fun _ => ?_)
    · intro y0 y1 y2 y3 y4 y5 y6 y7 y8
      unfold proof_Postman_1.l1
      repeat' first
      | (with_reducible exact ih0 _ _ _ _ _ _ _ _)
      | (with_reducible exact ih1 _ _ _ _ _ _ _ _ _)
      | (with_reducible exact ih2 _ _ _ _ _ _ _ _)
      | (with_reducible exact ih3 _ _ _ _ _ _ _ _)
      | (with_reducible exact ih4 _ _ _ _ _ _)
      | (with_reducible exact proof_reduced.mono _ _ _ _ _)
      | (with_reducible exact proof_right.mono _ _ _)
      | (with_reducible exact proof_together.mono _ _ _)
      | (with_reducible exact LeO.refl _)
      | (with_reducible exact LeO.none _)
      | (with_reducible refine LeO.ite ?_ ?_)
      | (with_reducible refine LeO.bind ?_ (fun _ => ?_))
      | exact ih0 _ _ _ _ _ _ _ _
      | exact ih1 _ _ _ _ _ _ _ _ _
      | exact ih2 _ _ _ _ _ _ _ _
      | exact ih3 _ _ _ _ _ _ _ _
      | exact ih4 _ _ _ _ _ _
      | exact proof_reduced.mono _ _ _ _ _
      | exact proof_right.mono _ _ _
      | exact proof_together.mono _ _ _
      | exact LeO.none _
      | refine LeO.ite ?_ ?_
      | refine LeO.bind ?_ (fun _ => ?_)
    · intro y0 y1 y2 y3 y4 y5 y6 y7
      unfold proof_Postman_1.l2
      repeat' first
      | (with_reducible exact ih0 _ _ _ _ _ _ _ _)
      | (with_reducible exact ih1 _ _ _ _ _ _ _ _ _)
      | (with_reducible exact ih2 _ _ _ _ _ _ _ _)
      | (with_reducible exact ih3 _ _ _ _ _ _ _ _)
      | (with_reducible exact ih4 _ _ _ _ _ _)
      | (with_reducible exact proof_reduced.mono _ _ _ _ _)
      | (with_reducible exact proof_right.mono _ _ _)
      | (with_reducible exact proof_together.mono _ _ _)
      | (with_reducible exact LeO.refl _)
      | (with_reducible exact LeO.none _)
      | (with_reducible refine LeO.ite ?_ ?_)
      | (with_reducible refine LeO.bind ?_ (fun _ => ?_))
      | exact ih0 _ _ _ _ _ _ _ _
      | exact ih1 _ _ _ _ _ _ _ _ _
      | exact ih2 _ _ _ _ _ _ _ _
      | exact ih3 _ _ _ _ _ _ _ _
      | exact ih4 _ _ _ _ _ _
      | exact proof_reduced.mono _ _ _ _ _
      | exact proof_right.mono _ _ _
      | exact proof_together.mono _ _ _
      | exact LeO.none _
      | refine LeO.ite ?_ ?_
      | refine LeO.bind ?_ (fun _ => ?_)
    · intro y0 y1 y2 y3 y4 y5 y6 y7
      unfold proof_Postman_1.l3
      repeat' first
      | (with_reducible exact ih0 _ _ _ _ _ _ _ _)
      | (with_reducible exact ih1 _ _ _ _ _ _ _ _ _)
      | (with_reducible exact ih2 _ _ _ _ _ _ _ _)
      | (with_reducible exact ih3 _ _ _ _ _ _ _ _)
      | (with_reducible exact ih4 _ _ _ _ _ _)
      | (with_reducible exact proof_reduced.mono _ _ _ _ _)
      | (with_reducible exact proof_right.mono _ _ _)
      | (with_reducible exact proof_together.mono _ _ _)
      | (with_reducible exact LeO.refl _)
      | (with_reducible exact LeO.none _)
      | (with_reducible refine LeO.ite ?_ ?_)
      | (with_reducible refine LeO.bind ?_ (fun _ => ?_))
      | exact ih0 _ _ _ _ _ _ _ _
      | exact ih1 _ _ _ _ _ _ _ _ _
      | exact ih2 _ _ _ _ _ _ _ _
      | exact ih3 _ _ _ _ _ _ _ _
      | exact ih4 _ _ _ _ _ _
      | exact proof_reduced.mono _ _ _ _ _
      | exact proof_right.mono _ _ _
      | exact proof_together.mono _ _ _
      | exact LeO.none _
      | refine LeO.ite ?_ ?_
      | refine LeO.bind ?_ (fun _ => ?_)
    · intro y0 y1 y2 y3 y4 y5
      unfold proof_Postman_1.l4
      repeat' first
      | (with_reducible exact ih0 _ _ _ _ _ _ _ _)
      | (with_reducible exact ih1 _ _ _ _ _ _ _ _ _)
      | (with_reducible exact ih2 _ _ _ _ _ _ _ _)
      | (with_reducible exact ih3 _ _ _ _ _ _ _ _)
      | (with_reducible exact ih4 _ _ _ _ _ _)
      | (with_reducible exact proof_reduced.mono _ _ _ _ _)
      | (with_reducible exact proof_right.mono _ _ _)
      | (with_reducible exact proof_together.mono _ _ _)
      | (with_reducible exact LeO.refl _)
      | (with_reducible exact LeO.none _)
      | (with_reducible refine LeO.ite ?_ ?_)
      | (with_reducible refine LeO.bind ?_ (fun _ => ?_))
      | exact ih0 _ _ _ _ _ _ _ _
      | exact ih1 _ _ _ _ _ _ _ _ _
      | exact ih2 _ _ _ _ _ _ _ _
      | exact ih3 _ _ _ _ _ _ _ _
      | exact ih4 _ _ _ _ _ _
      | exact proof_reduced.mono _ _ _ _ _
      | exact proof_right.mono _ _ _
      | exact proof_together.mono _ _ _
      | exact LeO.none _
      | refine LeO.ite ?_ ?_
      | refine LeO.bind ?_ (fun _ => ?_)
theorem proof_Postman_1.mono : ∀ a0 a1 a2 a3 a4 k, LeO (proof_Postman_1.f k a0 a1 a2 a3 a4) (proof_Postman_1.f (k + 1) a0 a1 a2 a3 a4) := by
  intro a0 a1 a2 a3 a4 k
  obtain ⟨ih0, ih1, ih2, ih3, ih4⟩ := proof_Postman_1.mono_l k
  unfold proof_Postman_1.f
  repeat' first
      | (with_reducible exact ih0 _ _ _ _ _ _ _ _)
      | (with_reducible exact ih1 _ _ _ _ _ _ _ _ _)
      | (with_reducible exact ih2 _ _ _ _ _ _ _ _)
      | (with_reducible exact ih3 _ _ _ _ _ _ _ _)
      | (with_reducible exact ih4 _ _ _ _ _ _)
      | (with_reducible exact proof_reduced.mono _ _ _ _ _)
      | (with_reducible exact proof_right.mono _ _ _)
      | (with_reducible exact proof_together.mono _ _ _)
      | (with_reducible exact LeO.refl _)
      | (with_reducible exact LeO.none _)
      | (with_reducible refine LeO.ite ?_ ?_)
      | (with_reducible refine LeO.bind ?_ (fun _ => ?_))
      | exact ih0 _ _ _ _ _ _ _ _
      | exact ih1 _ _ _ _ _ _ _ _ _
      | exact ih2 _ _ _ _ _ _ _ _
      | exact ih3 _ _ _ _ _ _ _ _
      | exact ih4 _ _ _ _ _ _
      | exact proof_reduced.mono _ _ _ _ _
      | exact proof_right.mono _ _ _
      | exact proof_together.mono _ _ _
      | exact LeO.none _
      | refine LeO.ite ?_ ?_
      | refine LeO.bind ?_ (fun _ => ?_)
def proof_Postman_1.T12 : Bool × List (List Nat × List Nat) := (true, [([], []), ([], []), ([1], [1]), ([0, 2], [0, 2]), ([3], [3]), ([], []), ([5], [5]), ([], []), ([6, 7], [6, 7]), ([8], [8]), ([4, 9], [4, 9]), ([0, 2, 0, 1, 2, 3, 4, 5, 6, 7, 8, 9, 10], [0, 2]), ([11, 10, 0, 1, 2, 3, 4, 5, 6, 7, 8, 9, 10], [10, 11])])
def proof_Postman_1.B12 : List Nat := [0, 0, 2, 7, 15, 0, 32, 0, 224, 480, 1023, 2047, 4095]
theorem proof_Postman_1.tab12 : rtab .any (opsOf Try.f66 12) = proof_Postman_1.T12 := by kernel_rfl
theorem proof_Postman_1.bits12 : waitsOk proof_Postman_1.T12.2 proof_Postman_1.B12 = true := by kernel_rfl
def proof_Postman_1.T13 : Bool × List (List Nat × List Nat) := (true, [([], []), ([], []), ([1], [1]), ([0, 2], [0, 2]), ([3], [3]), ([], []), ([5], [5]), ([], []), ([6, 7], [6, 7]), ([8], [8]), ([4, 9], [4, 9]), ([0, 2, 0, 1, 2, 3, 4, 5, 6, 7, 8, 9, 10], [0, 2]), ([11, 10, 0, 1, 2, 3, 4, 5, 6, 7, 8, 9, 10], [10, 11])])
def proof_Postman_1.B13 : List Nat := [0, 0, 2, 7, 15, 0, 32, 0, 224, 480, 1023, 2047, 4095]
theorem proof_Postman_1.tab13 : rtab .any (opsOf Try.f66 13) = proof_Postman_1.T13 := by kernel_rfl
theorem proof_Postman_1.bits13 : waitsOk proof_Postman_1.T13.2 proof_Postman_1.B13 = true := by kernel_rfl
def proof_Postman_1.T29 : Bool × List (List Nat × List Nat) := (true, [([], []), ([], []), ([1], [1]), ([], []), ([3], [3]), ([], []), ([4, 5], [4, 5]), ([6], [6]), ([2, 7], [2, 7]), ([0, 8], [0, 8]), ([9, 0, 1, 2, 3, 4, 5, 6, 7, 8, 9], [9])])
def proof_Postman_1.B29 : List Nat := [0, 0, 2, 0, 8, 0, 56, 120, 254, 511, 1023]
theorem proof_Postman_1.tab29 : rtab .any (opsOf Try.f66 29) = proof_Postman_1.T29 := by kernel_rfl
theorem proof_Postman_1.bits29 : waitsOk proof_Postman_1.T29.2 proof_Postman_1.B29 = true := by kernel_rfl
set_option maxHeartbeats 8000000 in
set_option maxRecDepth 100000 in
theorem proof_Postman_1.calls (k : Nat) (a0_0 : Int) (A0_1 : Option Addr) (c0_1 : Nat) (l0_1 : List (S98)) (A1_0 : Option Addr) (c1_0 : Nat) (l1_0 : List Int) (A1_1 : Option Addr) (c1_1 : Nat) (l1_1 : List Int) (a2 : Int) (r1 : Int) (r2 : Int) (w wc0 : World) (gb200 gb201 gb202 gbx : Nat) (hr0_1 : Kd.C k98 w A0_1 l0_1.length l0_1) (hc0_1 : l0_1.length ≤ c0_1) (hr1_0 : Kd.C (Kd.int .i64) w A1_0 l1_0.length l1_0) (hc1_0 : l1_0.length ≤ c1_0) (hr1_1 : Kd.C (Kd.int .i64) w A1_1 l1_1.length l1_1) (hc1_1 : l1_1.length ≤ c1_1) (hB : Below w.heap.size w wc0) (hb0_ : wc0.heap[gb200]? = some (.cells #[.int .i64 a0_0, .slice A0_1 l0_1.length c0_1] 24 (0, 0))) (hg0_ : w.heap.size ≤ gb200) (hb1_ : wc0.heap[gb201]? = some (.cells #[.slice A1_0 l1_0.length c1_0, .slice A1_1 l1_1.length c1_1] 51 (0, 0))) (hg1_ : w.heap.size ≤ gb201) (hb2_ : wc0.heap[gb202]? = some (.cells #[.int .i64 a2] 2 (0, 0))) (hg2_ : w.heap.size ≤ gb202) (hb3_ : wc0.heap[gbx]? = some (.cells #[.int .i64 0] 30 (0, 0))) (hg3_ : w.heap.size ≤ gbx) (hn0_1_ : gb200 ≠ gb201) (hn0_2_ : gb200 ≠ gb202) (hn0_3_ : gb200 ≠ gbx) (hn1_2_ : gb201 ≠ gb202) (hn1_3_ : gb201 ≠ gbx) (hn2_3_ : gb202 ≠ gbx) (h : proof_Postman_1.f k a0_0 l0_1 l1_0 l1_1 a2 = some (r1, r2)) :
    Calls Try.prog 66 #[.pointer (some ⟨gb200, 0, none⟩), .pointer (some ⟨gb201, 0, none⟩), .pointer (some ⟨gb202, 0, none⟩)] wc0 fun e w' => Gave r1 (e = .returned (.tuple #[])) (e = gave r1) ∧ w'.heap[gb202]? = some (.cells #[.int .i64 r2] 2 (0, 0)) ∧ w'.heap[gbx]? = some (.cells #[.int .i64 0] 30 (0, 0)) ∧ Below w.heap.size w w' := by
 have hu24 := Try.underlying24
 have hu98 := Try.underlying98
 have HR0_1 := ak hr0_1
 have HC0_1 := ak hc0_1
 clear hr0_1 hc0_1
 have HR1_0 := ak hr1_0
 have HC1_0 := ak hc1_0
 clear hr1_0 hc1_0
 have HR1_1 := ak hr1_1
 have HC1_1 := ak hc1_1
 clear hr1_1 hc1_1
 have HB := ak hB
 clear hB
 have BK200 := ak hb0_
 have GW200 := ak hg0_
 have GE200 := ak hg0_
 have BK201 := ak hb1_
 have GW201 := ak hg1_
 have GE201 := ak hg1_
 have BK202 := ak hb2_
 have GW202 := ak hg2_
 have GE202 := ak hg2_
 have BK999 := ak hb3_
 have GW999 := ak hg3_
 have GE999 := ak hg3_
 have NB200_201 := ak hn0_1_
 have NB201_200 := ak hn0_1_.symm
 have NB200_202 := ak hn0_2_
 have NB202_200 := ak hn0_2_.symm
 have NB200_999 := ak hn0_3_
 have NB999_200 := ak hn0_3_.symm
 have NB201_202 := ak hn1_2_
 have NB202_201 := ak hn1_2_.symm
 have NB201_999 := ak hn1_3_
 have NB999_201 := ak hn1_3_.symm
 have NB202_999 := ak hn2_3_
 have NB999_202 := ak hn2_3_.symm
 clear hb0_ hg0_ hb1_ hg1_ hb2_ hg2_ hb3_ hg3_ hn0_1_ hn0_2_ hn0_3_ hn1_2_ hn1_3_ hn2_3_
 have H : ((proof_right.f k a0_0 l0_1).bind fun t203 => (if t203 = 0 then (proof_Postman_1.l0 k l0_1 (l0_1.length : Int) 0 a0_0 l0_1 l1_0 l1_1 a2) else (some (t203, a2)))) = some (r1, r2) := h
 clear h
 replace H := Option.bind_eq_some_iff.mp H
 obtain ⟨t203, A40, H⟩ := H
 replace H : (if t203 = 0 then (proof_Postman_1.l0 k l0_1 (l0_1.length : Int) 0 a0_0 l0_1 l1_0 l1_1 a2) else (some (t203, a2))) = some (r1, r2) := H
 by_cases c5 : t203 = 0
 ·
  subst c5
  have H1 : (proof_Postman_1.l0 k l0_1 (l0_1.length : Int) 0 a0_0 l0_1 l1_0 l1_1 a2) = some (r1, r2) := by rw [if_pos rfl] at H; exact H
  clear H
  have H := H1
  clear H1
  have A4 := ak A40
  clear A40
  have H' := ak H
  clear H
  have hnb6 := NB200_201.out
  have hnc6 := NB201_200.out
  have hnb7 := NB200_202.out
  have hnc7 := NB202_200.out
  have hnb8 := NB200_999.out
  have hnc8 := NB999_200.out
  have hcz9_0 : wc0.cell? ⟨gb200, 0, none⟩ = some (.int .i64 a0_0) := (blk_cell BK200.out 0).trans rfl
  have hcz9_1 : wc0.cell? ⟨gb200, 1, none⟩ = some (.slice A0_1 l0_1.length c0_1) := (blk_cell BK200.out 1).trans rfl
  have hfz9_0 := blk_frozen BK200.out 0
  have hfz9_1 := blk_frozen BK200.out 1
  go_enter Try.func66, Try.ntmps66
  go_wp2_with (first | ((with_reducible refine gate_callee (f := 50) rfl ?_); refine goesL_ (some 15) rfl rfl Try.func50 (by kernel_rfl) rfl #[.agg #[.int .i64 a0_0, .slice A0_1 l0_1.length c0_1]] rfl (by (try simp only [List.map_toArray, List.map_cons, List.map_nil]); first | done | rfl | (simp only [List.length_drop, List.length_take]; rfl)) ?_; (with_reducible refine (proof_right.ok k a0_0 _ _ l0_1  _ ?side1 ?side2 A4.out).mono ?_); (case side1 => repeat (first | exact (Kd.C_below HR0_1.out HB.out) | (with_reducible refine Kd.C_alloc ?_ _) | (with_reducible refine Kd.C_drewN ?_ _) | (with_reducible refine Kd.C_drew ?_))); (case side2 => exact HC0_1.out); rintro e w10 ⟨rfl, hb⟩; refine ⟨_, rfl, ?_⟩; have n0_ := ak (blk_below (bx BK200.out) hb); have n1_ := ak (blk_below (bx BK201.out) hb); have n2_ := ak (blk_below (bx BK202.out) hb); have n3_ := ak (blk_below (g := gbx) (o := .cells #[.int .i64 0] 30 (0, 0)) (bx BK999.out) hb); have n4_ := ak (below_step lb hb); clear BK200; clear BK201; clear BK202; clear BK999; clear HB; have BK200 := n0_; have BK201 := n1_; have BK202 := n2_; have BK999 := n3_; have HB := n4_; clear n0_ n1_ n2_ n3_ n4_; (try clear hb); (try clear hb2); (try clear hk); (try clear hi); have hcz11_0 : w10.cell? ⟨gb200, 0, none⟩ = some (.int .i64 a0_0) := (blk_cell BK200.out 0).trans rfl; have hcz11_1 : w10.cell? ⟨gb200, 1, none⟩ = some (.slice A0_1 l0_1.length c0_1) := (blk_cell BK200.out 1).trans rfl; have hfz11_0 := blk_frozen BK200.out 0; have hfz11_1 := blk_frozen BK200.out 1))
  go_loopg [19] k (fun kq v19 w' => ∃ (x19_1 : Int), v19 = .int .i64 x19_1 ∧ Aside0 (proof_Postman_1.l0 kq l0_1 (l0_1.length : Int) x19_1 a0_0 l0_1 l1_0 l1_1 a2 = some (r1, r2)) ∧ Aside0 (kq ≤ k) ∧ Aside0 (w'.heap[gb200]? = some (.cells #[.int .i64 a0_0, (.slice A0_1 l0_1.length c0_1)] 24 (0, 0))) ∧ Aside0 (w'.heap[gb201]? = some (.cells #[(.slice A1_0 l1_0.length c1_0), (.slice A1_1 l1_1.length c1_1)] 51 (0, 0))) ∧ Aside0 (w'.heap[gb202]? = some (.cells #[.int .i64 a2] 2 (0, 0))) ∧ Aside0 (w'.heap[gbx]? = some (.cells #[.int .i64 0] 30 (0, 0))) ∧ Aside0 (Below w.heap.size w w'))
  case atStart => exact ⟨(0), (by first | rfl | (simp [*]; done)), H', ⟨Nat.le_refl _⟩, ⟨bx BK200.out⟩, ⟨bx BK201.out⟩, ⟨bx BK202.out⟩, ⟨bx BK999.out⟩, ⟨lb⟩⟩
  case round =>
   clear H'
   try clear c1; try clear p2; try clear c5; try clear c6; try clear c7; try clear c8; try clear hcz11_0; try clear hcz11_1; try clear hcz9_0; try clear hcz9_1; try clear hfz11_0; try clear hfz11_1; try clear hfz9_0; try clear hfz9_1
   obtain ⟨x19_1, rfl, HA, HK1, BK200, BK201, BK202, BK999, HB⟩ := hrel
   cases gk with
   | zero => exact absurd HA.out (by simp [proof_Postman_1.l0])
   | succ k1 =>
    have H := HA.out
    clear HA
    simp only [proof_Postman_1.l0] at H
    by_cases c12 : x19_1 < (l0_1.length : Int)
    ·
     rw [if_pos c12] at H
     have c12b0 : decide (x19_1 < (l0_1.length : Int)) = true := decide_eq_true c12
     clear c12
     by_cases c13 : 0 ≤ x19_1
     rotate_left
     ·
      rw [if_neg c13] at H
      exact absurd H (by simp)
     rw [if_pos c13] at H
     have c13b0 : decide (0 ≤ x19_1) = true := decide_eq_true c13
     clear c13
     by_cases c14 : x19_1 < (l0_1.length : Int)
     rotate_left
     ·
      rw [if_neg c14] at H
      exact absurd H (by simp)
     rw [if_pos c14] at H
     have c14b0 : decide (x19_1 < (l0_1.length : Int)) = true := decide_eq_true c14
     clear c14
     by_cases c15 : ((rd_T98 l0_1 x19_1).f3) ≥ 0
     ·
      rw [if_pos c15] at H
      have c15b0 : decide (0 ≤ ((rd_T98 l0_1 x19_1).f3)) = true := decide_eq_true c15
      clear c15
      have A16 := ak (show proof_need.f true 80 = some () from rfl)
      have H' := ak H
      clear H
      have p204 : 0 ≤ (x19_1 : Int) := oda
      have q204 : x19_1 < (l0_1.length : Int) := oda
      obtain ⟨ad204, e204, hx204_0, hx204_1, hx204_2, hx204_3⟩ := at_T98 HR0_1.out x19_1 p204 q204
      cases e204
      (try replace hx204_0 := (HB.out.cell (World.block_lt_of_cell? w _ hx204_0)).trans hx204_0)
      (try replace hx204_1 := (HB.out.cell (World.block_lt_of_cell? w _ hx204_1)).trans hx204_1)
      (try replace hx204_2 := (HB.out.cell (World.block_lt_of_cell? w _ hx204_2)).trans hx204_2)
      (try replace hx204_3 := (HB.out.cell (World.block_lt_of_cell? w _ hx204_3)).trans hx204_3)
      replace p204 := eq_true p204
      replace q204 := eq_true q204
      go_wp2_with (first | ((with_reducible refine gate_dst (N := 4) rfl ?_); refine box_event ?hg (N := 4) ?hd (cs := #[.int .i64 0, .int .i64 0, .int .i64 0, .int .i64 0]) (t := 98) ?hr ?_; (case hd => rfl); (case hg => rfl); (case hr => first | (go_simp; done) | (go_simp; rfl)); intro gb205 hg w17 hbox hb; have n0_ := ak (blk_below (bx BK200.out) hb); have n1_ := ak (blk_below (bx BK201.out) hb); have n2_ := ak (blk_below (bx BK202.out) hb); have n3_ := ak (blk_below (g := gbx) (o := .cells #[.int .i64 0] 30 (0, 0)) (bx BK999.out) hb); have n4_ := ak (below_step lb hb); have n5_ := ak (hbox); have n6_ := ak ((by rw [hg]; exact (below_size lb) : w.heap.size ≤ gb205)); have n7_ := ak ((by rw [hg]; exact (below_size lb) : w.heap.size ≤ gb205)); have n8_ := ak ((by rw [hg]; exact Nat.ne_of_lt (blk_lt (g := gb200) (o := .cells #[.int .i64 a0_0, .slice (some ad204) l0_1.length c0_1] 24 (0, 0)) (bx BK200.out)) : gb200 ≠ gb205)); have n9_ := ak ((by rw [hg]; exact Nat.ne_of_gt (blk_lt (g := gb200) (o := .cells #[.int .i64 a0_0, .slice (some ad204) l0_1.length c0_1] 24 (0, 0)) (bx BK200.out)) : gb205 ≠ gb200)); have n10_ := ak ((by rw [hg]; exact Nat.ne_of_lt (blk_lt (g := gb201) (o := .cells #[.slice A1_0 l1_0.length c1_0, .slice A1_1 l1_1.length c1_1] 51 (0, 0)) (bx BK201.out)) : gb201 ≠ gb205)); have n11_ := ak ((by rw [hg]; exact Nat.ne_of_gt (blk_lt (g := gb201) (o := .cells #[.slice A1_0 l1_0.length c1_0, .slice A1_1 l1_1.length c1_1] 51 (0, 0)) (bx BK201.out)) : gb205 ≠ gb201)); have n12_ := ak ((by rw [hg]; exact Nat.ne_of_lt (blk_lt (g := gb202) (o := .cells #[.int .i64 a2] 2 (0, 0)) (bx BK202.out)) : gb202 ≠ gb205)); have n13_ := ak ((by rw [hg]; exact Nat.ne_of_gt (blk_lt (g := gb202) (o := .cells #[.int .i64 a2] 2 (0, 0)) (bx BK202.out)) : gb205 ≠ gb202)); have n14_ := ak ((by rw [hg]; exact Nat.ne_of_lt (blk_lt (g := gbx) (o := .cells #[.int .i64 0] 30 (0, 0)) (bx BK999.out)) : gbx ≠ gb205)); have n15_ := ak ((by rw [hg]; exact Nat.ne_of_gt (blk_lt (g := gbx) (o := .cells #[.int .i64 0] 30 (0, 0)) (bx BK999.out)) : gb205 ≠ gbx)); clear BK200; clear BK201; clear BK202; clear BK999; clear HB; have BK200 := n0_; have BK201 := n1_; have BK202 := n2_; have BK999 := n3_; have HB := n4_; have BK205 := n5_; have GW205 := n6_; have GE205 := n7_; have NB200_205 := n8_; have NB205_200 := n9_; have NB201_205 := n10_; have NB205_201 := n11_; have NB202_205 := n12_; have NB205_202 := n13_; have NB999_205 := n14_; have NB205_999 := n15_; clear n0_ n1_ n2_ n3_ n4_ n5_ n6_ n7_ n8_ n9_ n10_ n11_ n12_ n13_ n14_ n15_; clear hb hbox hg; have hnb18 := NB205_200.out; have hnc18 := NB200_205.out; have hnb19 := NB205_201.out; have hnc19 := NB201_205.out; have hnb20 := NB205_202.out; have hnc20 := NB202_205.out; have hnb21 := NB205_999.out; have hnc21 := NB999_205.out; have hcz22_0 : w17.cell? ⟨gb205, 0, none⟩ = some (.int .i64 0) := (blk_cell BK205.out 0).trans rfl; have hcz22_1 : w17.cell? ⟨gb205, 1, none⟩ = some (.int .i64 0) := (blk_cell BK205.out 1).trans rfl; have hcz22_2 : w17.cell? ⟨gb205, 2, none⟩ = some (.int .i64 0) := (blk_cell BK205.out 2).trans rfl; have hcz22_3 : w17.cell? ⟨gb205, 3, none⟩ = some (.int .i64 0) := (blk_cell BK205.out 3).trans rfl; have hfz22_0 := blk_frozen BK205.out 0; have hfz22_1 := blk_frozen BK205.out 1; have hfz22_2 := blk_frozen BK205.out 2; have hfz22_3 := blk_frozen BK205.out 3) | ((with_reducible refine gate_callee (f := 51) rfl ?_); refine goesL_ (some 26) rfl rfl Try.func51 (by kernel_rfl) rfl #[.bool true, .int .i64 80] rfl (by (try simp only [List.map_toArray, List.map_cons, List.map_nil]); first | done | rfl | (simp only [List.length_drop, List.length_take]; rfl)) ?_; (with_reducible refine (proof_need.calls true 80  _ A16.out).mono ?_); rintro e w' ⟨rfl, ⟨nd, rfl⟩⟩; refine ⟨_, rfl, ?_⟩))
      go_roundg k1
      case measure => have := HK1.out; omega
      case rel => exact ⟨(wrap64 (x19_1 + 1)), (by first | rfl | (simp [*]; done)), H', ⟨by have := HK1.out; omega⟩, ⟨by (with_reducible repeat (first | refine blk_drewN ?_ _ | refine blk_drew ?_ | refine blk_alloc ?_ _)); refine blk_far ?_ NB200_205.out _; (with_reducible repeat (first | refine blk_drewN ?_ _ | refine blk_drew ?_ | refine blk_alloc ?_ _)); refine blk_far ?_ NB200_205.out _; (with_reducible repeat (first | refine blk_drewN ?_ _ | refine blk_drew ?_ | refine blk_alloc ?_ _)); refine blk_far ?_ NB200_205.out _; (with_reducible repeat (first | refine blk_drewN ?_ _ | refine blk_drew ?_ | refine blk_alloc ?_ _)); refine blk_far ?_ NB200_205.out _; exact bx BK200.out⟩, ⟨by (with_reducible repeat (first | refine blk_drewN ?_ _ | refine blk_drew ?_ | refine blk_alloc ?_ _)); refine blk_far ?_ NB201_205.out _; (with_reducible repeat (first | refine blk_drewN ?_ _ | refine blk_drew ?_ | refine blk_alloc ?_ _)); refine blk_far ?_ NB201_205.out _; (with_reducible repeat (first | refine blk_drewN ?_ _ | refine blk_drew ?_ | refine blk_alloc ?_ _)); refine blk_far ?_ NB201_205.out _; (with_reducible repeat (first | refine blk_drewN ?_ _ | refine blk_drew ?_ | refine blk_alloc ?_ _)); refine blk_far ?_ NB201_205.out _; exact bx BK201.out⟩, ⟨by (with_reducible repeat (first | refine blk_drewN ?_ _ | refine blk_drew ?_ | refine blk_alloc ?_ _)); refine blk_far ?_ NB202_205.out _; (with_reducible repeat (first | refine blk_drewN ?_ _ | refine blk_drew ?_ | refine blk_alloc ?_ _)); refine blk_far ?_ NB202_205.out _; (with_reducible repeat (first | refine blk_drewN ?_ _ | refine blk_drew ?_ | refine blk_alloc ?_ _)); refine blk_far ?_ NB202_205.out _; (with_reducible repeat (first | refine blk_drewN ?_ _ | refine blk_drew ?_ | refine blk_alloc ?_ _)); refine blk_far ?_ NB202_205.out _; exact bx BK202.out⟩, ⟨by (with_reducible repeat (first | refine blk_drewN ?_ _ | refine blk_drew ?_ | refine blk_alloc ?_ _)); refine blk_far ?_ NB999_205.out _; (with_reducible repeat (first | refine blk_drewN ?_ _ | refine blk_drew ?_ | refine blk_alloc ?_ _)); refine blk_far ?_ NB999_205.out _; (with_reducible repeat (first | refine blk_drewN ?_ _ | refine blk_drew ?_ | refine blk_alloc ?_ _)); refine blk_far ?_ NB999_205.out _; (with_reducible repeat (first | refine blk_drewN ?_ _ | refine blk_drew ?_ | refine blk_alloc ?_ _)); refine blk_far ?_ NB999_205.out _; exact bx BK999.out⟩, ⟨lb⟩⟩
     ·
      rw [if_neg c15] at H
      have c15b0 : decide (0 ≤ ((rd_T98 l0_1 x19_1).f3)) = false := decide_eq_false c15
      clear c15
      simp only [Option.some.injEq, Prod.mk.injEq] at H
      obtain ⟨rfl, rfl⟩ := H
      have p204 : 0 ≤ (x19_1 : Int) := oda
      have q204 : x19_1 < (l0_1.length : Int) := oda
      obtain ⟨ad204, e204, hx204_0, hx204_1, hx204_2, hx204_3⟩ := at_T98 HR0_1.out x19_1 p204 q204
      cases e204
      (try replace hx204_0 := (HB.out.cell (World.block_lt_of_cell? w _ hx204_0)).trans hx204_0)
      (try replace hx204_1 := (HB.out.cell (World.block_lt_of_cell? w _ hx204_1)).trans hx204_1)
      (try replace hx204_2 := (HB.out.cell (World.block_lt_of_cell? w _ hx204_2)).trans hx204_2)
      (try replace hx204_3 := (HB.out.cell (World.block_lt_of_cell? w _ hx204_3)).trans hx204_3)
      replace p204 := eq_true p204
      replace q204 := eq_true q204
      go_wp2_with (first | ((with_reducible refine gate_dst (N := 4) rfl ?_); refine box_event ?hg (N := 4) ?hd (cs := #[.int .i64 0, .int .i64 0, .int .i64 0, .int .i64 0]) (t := 98) ?hr ?_; (case hd => rfl); (case hg => rfl); (case hr => first | (go_simp; done) | (go_simp; rfl)); intro gb205 hg w23 hbox hb; have n0_ := ak (blk_below (bx BK200.out) hb); have n1_ := ak (blk_below (bx BK201.out) hb); have n2_ := ak (blk_below (bx BK202.out) hb); have n3_ := ak (blk_below (g := gbx) (o := .cells #[.int .i64 0] 30 (0, 0)) (bx BK999.out) hb); have n4_ := ak (below_step lb hb); have n5_ := ak (hbox); have n6_ := ak ((by rw [hg]; exact (below_size lb) : w.heap.size ≤ gb205)); have n7_ := ak ((by rw [hg]; exact (below_size lb) : w.heap.size ≤ gb205)); have n8_ := ak ((by rw [hg]; exact Nat.ne_of_lt (blk_lt (g := gb200) (o := .cells #[.int .i64 a0_0, .slice (some ad204) l0_1.length c0_1] 24 (0, 0)) (bx BK200.out)) : gb200 ≠ gb205)); have n9_ := ak ((by rw [hg]; exact Nat.ne_of_gt (blk_lt (g := gb200) (o := .cells #[.int .i64 a0_0, .slice (some ad204) l0_1.length c0_1] 24 (0, 0)) (bx BK200.out)) : gb205 ≠ gb200)); have n10_ := ak ((by rw [hg]; exact Nat.ne_of_lt (blk_lt (g := gb201) (o := .cells #[.slice A1_0 l1_0.length c1_0, .slice A1_1 l1_1.length c1_1] 51 (0, 0)) (bx BK201.out)) : gb201 ≠ gb205)); have n11_ := ak ((by rw [hg]; exact Nat.ne_of_gt (blk_lt (g := gb201) (o := .cells #[.slice A1_0 l1_0.length c1_0, .slice A1_1 l1_1.length c1_1] 51 (0, 0)) (bx BK201.out)) : gb205 ≠ gb201)); have n12_ := ak ((by rw [hg]; exact Nat.ne_of_lt (blk_lt (g := gb202) (o := .cells #[.int .i64 a2] 2 (0, 0)) (bx BK202.out)) : gb202 ≠ gb205)); have n13_ := ak ((by rw [hg]; exact Nat.ne_of_gt (blk_lt (g := gb202) (o := .cells #[.int .i64 a2] 2 (0, 0)) (bx BK202.out)) : gb205 ≠ gb202)); have n14_ := ak ((by rw [hg]; exact Nat.ne_of_lt (blk_lt (g := gbx) (o := .cells #[.int .i64 0] 30 (0, 0)) (bx BK999.out)) : gbx ≠ gb205)); have n15_ := ak ((by rw [hg]; exact Nat.ne_of_gt (blk_lt (g := gbx) (o := .cells #[.int .i64 0] 30 (0, 0)) (bx BK999.out)) : gb205 ≠ gbx)); clear BK200; clear BK201; clear BK202; clear BK999; clear HB; have BK200 := n0_; have BK201 := n1_; have BK202 := n2_; have BK999 := n3_; have HB := n4_; have BK205 := n5_; have GW205 := n6_; have GE205 := n7_; have NB200_205 := n8_; have NB205_200 := n9_; have NB201_205 := n10_; have NB205_201 := n11_; have NB202_205 := n12_; have NB205_202 := n13_; have NB999_205 := n14_; have NB205_999 := n15_; clear n0_ n1_ n2_ n3_ n4_ n5_ n6_ n7_ n8_ n9_ n10_ n11_ n12_ n13_ n14_ n15_; clear hb hbox hg; have hnb24 := NB205_200.out; have hnc24 := NB200_205.out; have hnb25 := NB205_201.out; have hnc25 := NB201_205.out; have hnb26 := NB205_202.out; have hnc26 := NB202_205.out; have hnb27 := NB205_999.out; have hnc27 := NB999_205.out; have hcz28_0 : w23.cell? ⟨gb205, 0, none⟩ = some (.int .i64 0) := (blk_cell BK205.out 0).trans rfl; have hcz28_1 : w23.cell? ⟨gb205, 1, none⟩ = some (.int .i64 0) := (blk_cell BK205.out 1).trans rfl; have hcz28_2 : w23.cell? ⟨gb205, 2, none⟩ = some (.int .i64 0) := (blk_cell BK205.out 2).trans rfl; have hcz28_3 : w23.cell? ⟨gb205, 3, none⟩ = some (.int .i64 0) := (blk_cell BK205.out 3).trans rfl; have hfz28_0 := blk_frozen BK205.out 0; have hfz28_1 := blk_frozen BK205.out 1; have hfz28_2 := blk_frozen BK205.out 2; have hfz28_3 := blk_frozen BK205.out 3) | ((with_reducible refine gate_callee (f := 51) rfl ?_); refine panicsL_ (some 26) rfl rfl Try.func51 (by kernel_rfl) rfl #[.bool false, .int .i64 80] rfl (by (try simp only [List.map_toArray, List.map_cons, List.map_nil]); first | done | rfl | (simp only [List.length_drop, List.length_take]; rfl)) ?_; refine (proof_need.bad 80 _).mono ?_; rintro e w' ⟨rfl, rfl⟩; refine ⟨_, rfl, ?_⟩; (repeat (first | refine panic_then ?_ | refine panic_block ?_)); exact panic_body rfl (⟨Gave.no (by first | decide | assumption | (simp_all; done)) rfl, (by (with_reducible repeat (first | refine blk_drewN ?_ _ | refine blk_drew ?_ | refine blk_alloc ?_ _)); refine blk_far ?_ NB202_205.out _; (with_reducible repeat (first | refine blk_drewN ?_ _ | refine blk_drew ?_ | refine blk_alloc ?_ _)); refine blk_far ?_ NB202_205.out _; (with_reducible repeat (first | refine blk_drewN ?_ _ | refine blk_drew ?_ | refine blk_alloc ?_ _)); refine blk_far ?_ NB202_205.out _; (with_reducible repeat (first | refine blk_drewN ?_ _ | refine blk_drew ?_ | refine blk_alloc ?_ _)); refine blk_far ?_ NB202_205.out _; exact bx BK202.out), (by (with_reducible repeat (first | refine blk_drewN ?_ _ | refine blk_drew ?_ | refine blk_alloc ?_ _)); refine blk_far ?_ NB999_205.out _; (with_reducible repeat (first | refine blk_drewN ?_ _ | refine blk_drew ?_ | refine blk_alloc ?_ _)); refine blk_far ?_ NB999_205.out _; (with_reducible repeat (first | refine blk_drewN ?_ _ | refine blk_drew ?_ | refine blk_alloc ?_ _)); refine blk_far ?_ NB999_205.out _; (with_reducible repeat (first | refine blk_drewN ?_ _ | refine blk_drew ?_ | refine blk_alloc ?_ _)); refine blk_far ?_ NB999_205.out _; exact bx BK999.out), lb⟩)))
    ·
     rw [if_neg c12] at H
     have c12b0 : decide (x19_1 < (l0_1.length : Int)) = false := decide_eq_false c12
     clear c12
     by_cases c29 : (l1_0.length : Int) = (l0_1.length : Int)
     ·
      rw [if_pos c29] at H
      have c29b0 : ((l1_0.length : Int) == (l0_1.length : Int)) = true := beq_iff_eq.mpr c29
      have c29b1 : ((l1_0.length : Int) != (l0_1.length : Int)) = false := bne_eq_false_iff_eq.mpr c29
      have c29b2 : (l1_0.length == l0_1.length) = true := by first | simpa using c29 | (simp at c29 ⊢; omega)
      clear c29
      have A30 := ak (show proof_need.f true 221 = some () from rfl)
      by_cases c31 : 0 ≤ a0_0
      rotate_left
      ·
       rw [if_neg c31] at H
       exact absurd H (by simp)
      rw [if_pos c31] at H
      have c31b0 := eq_true c31
      have c31b1 : decide (0 ≤ a0_0) = true := decide_eq_true c31
      clear c31
      by_cases c32 : (a0_0 : Int).toNat ≤ 35184372088832
      rotate_left
      ·
       rw [if_neg c32] at H
       exact absurd H (by simp)
      rw [if_pos c32] at H
      have c32b0 := eq_true c32
      have c32b1 : decide ((a0_0 : Int).toNat ≤ 35184372088832) = true := decide_eq_true c32
      clear c32
      obtain ⟨y206, hy206⟩ : ∃ y_ : List Int, y_ = (List.replicate (a0_0 : Int).toNat 0) := ⟨_, rfl⟩
      replace H : (proof_Postman_1.l1 k1 y206 l0_1 (l0_1.length : Int) 0 a0_0 l0_1 l1_0 l1_1 a2) = some (r1, r2) := by first | (rw [hy206]; exact H) | exact H
      have Ny206 := ak hy206
      clear hy206
      have H' := ak H
      clear H
      have hnb33 := NB201_200.out
      have hnc33 := NB200_201.out
      have hnb34 := NB201_202.out
      have hnc34 := NB202_201.out
      have hnb35 := NB201_999.out
      have hnc35 := NB999_201.out
      have hcz36_0 : wr.cell? ⟨gb201, 0, none⟩ = some (.slice A1_0 l1_0.length c1_0) := (blk_cell BK201.out 0).trans rfl
      have hcz36_1 : wr.cell? ⟨gb201, 1, none⟩ = some (.slice A1_1 l1_1.length c1_1) := (blk_cell BK201.out 1).trans rfl
      have hfz36_0 := blk_frozen BK201.out 0
      have hfz36_1 := blk_frozen BK201.out 1
      have hnb37 := NB200_202.out
      have hnc37 := NB202_200.out
      have hnb38 := NB200_999.out
      have hnc38 := NB999_200.out
      have hcz39_0 : wr.cell? ⟨gb200, 0, none⟩ = some (.int .i64 a0_0) := (blk_cell BK200.out 0).trans rfl
      have hcz39_1 : wr.cell? ⟨gb200, 1, none⟩ = some (.slice A0_1 l0_1.length c0_1) := (blk_cell BK200.out 1).trans rfl
      have hfz39_0 := blk_frozen BK200.out 0
      have hfz39_1 := blk_frozen BK200.out 1
      go_wp2_with (first | ((with_reducible refine gate_callee (f := 51) rfl ?_); refine goesL_ (some 35) rfl rfl Try.func51 (by kernel_rfl) rfl #[.bool true, .int .i64 221] rfl (by (try simp only [List.map_toArray, List.map_cons, List.map_nil]); first | done | rfl | (simp only [List.length_drop, List.length_take]; rfl)) ?_; (with_reducible refine (proof_need.calls true 221  _ A30.out).mono ?_); rintro e w' ⟨rfl, ⟨nd, rfl⟩⟩; refine ⟨_, rfl, ?_⟩) | ((with_reducible refine gate_dst (N := 38) rfl ?_); refine Kd.R_make (Kd.int .i64) _ 2 rfl (N := 38) rfl 25 _ _ rfl a0_0 rfl rfl Try.underlying25 (.int .i64 0) 8 info2 rfl (by decide) (by omega) 0 (ok := fun _ => True) (okp := fun _ => True) rfl (fun _ hk => hk) trivial (oda) (Nat.le_trans (Nat.mul_le_mul_right _ (oda : a0_0.toNat ≤ 35184372088832)) (by omega)) (Below.refl _ _) (Nat.le_refl _) ?_; intro v207 w40 ho41 hb hg_ hnew_; clear hg_ hnew_; (first | rw [← Ny206.out] at ho41 | (simp only [Int.reduceToNat] at ho41; rw [← Ny206.out] at ho41)); have n0_ := ak (Kd.R_lower (Kd.R_newB ho41 (g := gb202) (o := .cells #[.int .i64 a2] 2 (0, 0)) (bx BK202.out)) (below_size lb)); have n1_ := ak (blk_below (bx BK200.out) hb); have n2_ := ak (blk_below (bx BK201.out) hb); have n3_ := ak (blk_below (bx BK202.out) hb); have n4_ := ak (blk_below (g := gbx) (o := .cells #[.int .i64 0] 30 (0, 0)) (bx BK999.out) hb); have n5_ := ak (below_step lb hb); clear BK200; clear BK201; clear BK202; clear BK999; clear HB; have HO208 := n0_; have BK200 := n1_; have BK201 := n2_; have BK202 := n3_; have BK999 := n4_; have HB := n5_; clear n0_ n1_ n2_ n3_ n4_ n5_; clear hb ho41; have hcz42_0 : w40.cell? ⟨gb200, 0, none⟩ = some (.int .i64 a0_0) := (blk_cell BK200.out 0).trans rfl; have hcz42_1 : w40.cell? ⟨gb200, 1, none⟩ = some (.slice A0_1 l0_1.length c0_1) := (blk_cell BK200.out 1).trans rfl; have hfz42_0 := blk_frozen BK200.out 0; have hfz42_1 := blk_frozen BK200.out 1))
      go_loopg [42] k1 (fun kq v42 w' => ∃ (x5_2 : List Int) (x42_2 : Int), v42 = .int .i64 x42_2 ∧ Aside0 (proof_Postman_1.l1 kq x5_2 l0_1 (l0_1.length : Int) x42_2 a0_0 l0_1 l1_0 l1_1 a2 = some (r1, r2)) ∧ Aside0 (kq ≤ k1) ∧ Aside0 (Kd.R (Kd.int .i64) 2 w' w.heap.size (fun k_ => k_ ≠ gb202) v207 x5_2) ∧ Aside0 (w'.heap[gb200]? = some (.cells #[.int .i64 a0_0, (.slice A0_1 l0_1.length c0_1)] 24 (0, 0))) ∧ Aside0 (w'.heap[gb201]? = some (.cells #[(.slice A1_0 l1_0.length c1_0), (.slice A1_1 l1_1.length c1_1)] 51 (0, 0))) ∧ Aside0 (w'.heap[gb202]? = some (.cells #[.int .i64 a2] 2 (0, 0))) ∧ Aside0 (w'.heap[gbx]? = some (.cells #[.int .i64 0] 30 (0, 0))) ∧ Aside0 (Below w.heap.size w w'))
      case atStart => exact ⟨(y206), (0), (by first | rfl | (simp [*]; done)), H', ⟨Nat.le_refl _⟩, ⟨by exact rx (Kd.R_mono HO208.out (fun _ hk => hk.2))⟩, ⟨bx BK200.out⟩, ⟨bx BK201.out⟩, ⟨bx BK202.out⟩, ⟨bx BK999.out⟩, ⟨lb⟩⟩
      case round =>
       clear H'
       try clear c1; try clear c2; try clear p2; try clear q2; try clear hx2; try clear c3; try clear c5; try clear c6; try clear p6; try clear c7; try clear c8; try clear c12; try clear c12b0; try clear c13; try clear c13b0; try clear c14; try clear c14b0; try clear c15; try clear c15b0; try clear c18; try clear c19; try clear c20; try clear p20; try clear q20; try clear hx20; try clear c21; try clear c24; try clear c25; try clear c26; try clear c27; try clear c29; try clear c29b0; try clear c29b1; try clear c29b2; try clear c31; try clear c31b0; try clear c31b1; try clear c32; try clear c32b0; try clear c32b1; try clear c33; try clear c34; try clear c35; try clear c37; try clear c38; try clear hcz11_0; try clear hcz11_1; try clear hcz22_0; try clear hcz22_1; try clear hcz22_2; try clear hcz22_3; try clear hcz28_0; try clear hcz28_1; try clear hcz28_2; try clear hcz28_3; try clear hcz36_0; try clear hcz36_1; try clear hcz39_0; try clear hcz39_1; try clear hcz42_0; try clear hcz42_1; try clear hcz9_0; try clear hcz9_1; try clear hfz11_0; try clear hfz11_1; try clear hfz22_0; try clear hfz22_1; try clear hfz22_2; try clear hfz22_3; try clear hfz28_0; try clear hfz28_1; try clear hfz28_2; try clear hfz28_3; try clear hfz36_0; try clear hfz36_1; try clear hfz39_0; try clear hfz39_1; try clear hfz42_0; try clear hfz42_1; try clear hfz9_0; try clear hfz9_1; try clear hx204_0; try clear hx204_1; try clear hx204_2; try clear hx204_3; try clear p2; try clear p204; try clear q204
       obtain ⟨x5_2, x42_2, rfl, HA, HK2, HO_5, BK200, BK201, BK202, BK999, HB⟩ := hrel
       cases gk with
       | zero => exact absurd HA.out (by simp [proof_Postman_1.l1])
       | succ k2 =>
        have H := HA.out
        clear HA
        simp only [proof_Postman_1.l1] at H
        by_cases c43 : x42_2 < (l0_1.length : Int)
        ·
         rw [if_pos c43] at H
         have c43b0 : decide (x42_2 < (l0_1.length : Int)) = true := decide_eq_true c43
         clear c43
         by_cases c44 : 0 ≤ x42_2
         rotate_left
         ·
          rw [if_neg c44] at H
          exact absurd H (by simp)
         rw [if_pos c44] at H
         have c44b0 : decide (0 ≤ x42_2) = true := decide_eq_true c44
         clear c44
         by_cases c45 : x42_2 < (l0_1.length : Int)
         rotate_left
         ·
          rw [if_neg c45] at H
          exact absurd H (by simp)
         rw [if_pos c45] at H
         have c45b0 : decide (x42_2 < (l0_1.length : Int)) = true := decide_eq_true c45
         clear c45
         by_cases c46 : x42_2 < (l1_0.length : Int)
         rotate_left
         ·
          rw [if_neg c46] at H
          exact absurd H (by simp)
         rw [if_pos c46] at H
         have c46b0 : decide (x42_2 < (l1_0.length : Int)) = true := decide_eq_true c46
         clear c46
         by_cases c47 : (rd l1_0 x42_2) ≥ 1
         ·
          rw [if_pos c47] at H
          have c47b0 : decide (1 ≤ (rd l1_0 x42_2)) = true := decide_eq_true c47
          clear c47
          by_cases c48 : (rd l1_0 x42_2) ≤ 1048576
          ·
           rw [if_pos c48] at H
           have c48b0 : decide ((rd l1_0 x42_2) ≤ 1048576) = true := decide_eq_true c48
           clear c48
           have A49 := ak (show proof_need.f true 221 = some () from rfl)
           by_cases c50 : 0 ≤ ((rd_T98 l0_1 x42_2).f0)
           rotate_left
           ·
            rw [if_neg c50] at H
            exact absurd H (by simp)
           rw [if_pos c50] at H
           have c50b0 : decide (0 ≤ ((rd_T98 l0_1 x42_2).f0)) = true := decide_eq_true c50
           clear c50
           by_cases c51 : ((rd_T98 l0_1 x42_2).f0) < (x5_2.length : Int)
           rotate_left
           ·
            rw [if_neg c51] at H
            exact absurd H (by simp)
           rw [if_pos c51] at H
           have c51b0 : decide (((rd_T98 l0_1 x42_2).f0) < (x5_2.length : Int)) = true := decide_eq_true c51
           clear c51
           obtain ⟨y215, hy215⟩ : ∃ y_ : List Int, y_ = (x5_2.set (((rd_T98 l0_1 x42_2).f0) : Int).toNat (wrap64 ((rd x5_2 ((rd_T98 l0_1 x42_2).f0)) + (rd l1_0 x42_2)))) := ⟨_, rfl⟩
           replace H : (if 0 ≤ ((rd_T98 l0_1 x42_2).f1) then (if ((rd_T98 l0_1 x42_2).f1) < (x5_2.length : Int) then (proof_Postman_1.l1 k2 (y215.set (((rd_T98 l0_1 x42_2).f1) : Int).toNat (wrap64 ((rd y215 ((rd_T98 l0_1 x42_2).f1)) - (rd l1_0 x42_2)))) l0_1 (l0_1.length : Int) (wrap64 (x42_2 + 1)) a0_0 l0_1 l1_0 l1_1 a2) else (none)) else (none)) = some (r1, r2) := by first | (rw [hy215]; exact H) | exact H
           have Ny215 := ak hy215
           clear hy215
           by_cases c53 : 0 ≤ ((rd_T98 l0_1 x42_2).f1)
           rotate_left
           ·
            rw [if_neg c53] at H
            exact absurd H (by simp)
           rw [if_pos c53] at H
           have c53b0 : decide (0 ≤ ((rd_T98 l0_1 x42_2).f1)) = true := decide_eq_true c53
           clear c53
           by_cases c54 : ((rd_T98 l0_1 x42_2).f1) < (x5_2.length : Int)
           rotate_left
           ·
            rw [if_neg c54] at H
            exact absurd H (by simp)
           rw [if_pos c54] at H
           have c54b0 : decide (((rd_T98 l0_1 x42_2).f1) < (x5_2.length : Int)) = true := decide_eq_true c54
           clear c54
           obtain ⟨y218, hy218⟩ : ∃ y_ : List Int, y_ = (y215.set (((rd_T98 l0_1 x42_2).f1) : Int).toNat (wrap64 ((rd y215 ((rd_T98 l0_1 x42_2).f1)) - (rd l1_0 x42_2)))) := ⟨_, rfl⟩
           replace H : (proof_Postman_1.l1 k2 y218 l0_1 (l0_1.length : Int) (wrap64 (x42_2 + 1)) a0_0 l0_1 l1_0 l1_1 a2) = some (r1, r2) := by first | (rw [hy218]; exact H) | exact H
           have Ny218 := ak hy218
           clear hy218
           have H' := ak H
           clear H
           have p209 : 0 ≤ (x42_2 : Int) := oda
           have q209 : x42_2 < (l0_1.length : Int) := oda
           obtain ⟨ad209, e209, hx209_0, hx209_1, hx209_2, hx209_3⟩ := at_T98 HR0_1.out x42_2 p209 q209
           cases e209
           (try replace hx209_0 := (HB.out.cell (World.block_lt_of_cell? w _ hx209_0)).trans hx209_0)
           (try replace hx209_1 := (HB.out.cell (World.block_lt_of_cell? w _ hx209_1)).trans hx209_1)
           (try replace hx209_2 := (HB.out.cell (World.block_lt_of_cell? w _ hx209_2)).trans hx209_2)
           (try replace hx209_3 := (HB.out.cell (World.block_lt_of_cell? w _ hx209_3)).trans hx209_3)
           replace p209 := eq_true p209
           replace q209 := eq_true q209
           try go_wp2_with (first | ((with_reducible refine gate_dst (N := 7) rfl ?_); refine box_event ?hg (N := 7) ?hd (cs := #[.int .i64 0, .int .i64 0, .int .i64 0, .int .i64 0]) (t := 98) ?hr ?_; (case hd => rfl); (case hg => rfl); (case hr => first | (go_simp; done) | (go_simp; rfl)); intro gb210 hg w56 hbox hb; have n0_ := ak (Kd.R_below (rx HO_5.out) hb); have n1_ := ak (blk_below (bx BK200.out) hb); have n2_ := ak (blk_below (bx BK201.out) hb); have n3_ := ak (blk_below (bx BK202.out) hb); have n4_ := ak (blk_below (g := gbx) (o := .cells #[.int .i64 0] 30 (0, 0)) (bx BK999.out) hb); have n5_ := ak (below_step lb hb); have n6_ := ak (hbox); have n7_ := ak ((by rw [hg]; exact (below_size lb) : w.heap.size ≤ gb210)); have n8_ := ak ((by rw [hg]; exact (below_size lb) : w.heap.size ≤ gb210)); have n9_ := ak ((by rw [hg]; exact Nat.ne_of_lt (blk_lt (g := gb200) (o := .cells #[.int .i64 a0_0, .slice (some ad209) l0_1.length c0_1] 24 (0, 0)) (bx BK200.out)) : gb200 ≠ gb210)); have n10_ := ak ((by rw [hg]; exact Nat.ne_of_gt (blk_lt (g := gb200) (o := .cells #[.int .i64 a0_0, .slice (some ad209) l0_1.length c0_1] 24 (0, 0)) (bx BK200.out)) : gb210 ≠ gb200)); have n11_ := ak ((by rw [hg]; exact Nat.ne_of_lt (blk_lt (g := gb201) (o := .cells #[.slice A1_0 l1_0.length c1_0, .slice A1_1 l1_1.length c1_1] 51 (0, 0)) (bx BK201.out)) : gb201 ≠ gb210)); have n12_ := ak ((by rw [hg]; exact Nat.ne_of_gt (blk_lt (g := gb201) (o := .cells #[.slice A1_0 l1_0.length c1_0, .slice A1_1 l1_1.length c1_1] 51 (0, 0)) (bx BK201.out)) : gb210 ≠ gb201)); have n13_ := ak ((by rw [hg]; exact Nat.ne_of_lt (blk_lt (g := gb202) (o := .cells #[.int .i64 a2] 2 (0, 0)) (bx BK202.out)) : gb202 ≠ gb210)); have n14_ := ak ((by rw [hg]; exact Nat.ne_of_gt (blk_lt (g := gb202) (o := .cells #[.int .i64 a2] 2 (0, 0)) (bx BK202.out)) : gb210 ≠ gb202)); have n15_ := ak ((by rw [hg]; exact Nat.ne_of_lt (blk_lt (g := gbx) (o := .cells #[.int .i64 0] 30 (0, 0)) (bx BK999.out)) : gbx ≠ gb210)); have n16_ := ak ((by rw [hg]; exact Nat.ne_of_gt (blk_lt (g := gbx) (o := .cells #[.int .i64 0] 30 (0, 0)) (bx BK999.out)) : gb210 ≠ gbx)); clear HO_5; clear BK200; clear BK201; clear BK202; clear BK999; clear HB; have HO_5 := n0_; have BK200 := n1_; have BK201 := n2_; have BK202 := n3_; have BK999 := n4_; have HB := n5_; have BK210 := n6_; have GW210 := n7_; have GE210 := n8_; have NB200_210 := n9_; have NB210_200 := n10_; have NB201_210 := n11_; have NB210_201 := n12_; have NB202_210 := n13_; have NB210_202 := n14_; have NB999_210 := n15_; have NB210_999 := n16_; clear n0_ n1_ n2_ n3_ n4_ n5_ n6_ n7_ n8_ n9_ n10_ n11_ n12_ n13_ n14_ n15_ n16_; clear hb hbox hg; have hnb57 := NB210_200.out; have hnc57 := NB200_210.out; have hnb58 := NB210_201.out; have hnc58 := NB201_210.out; have hnb59 := NB210_202.out; have hnc59 := NB202_210.out; have hnb60 := NB210_999.out; have hnc60 := NB999_210.out; have hcz61_0 : w56.cell? ⟨gb210, 0, none⟩ = some (.int .i64 0) := (blk_cell BK210.out 0).trans rfl; have hcz61_1 : w56.cell? ⟨gb210, 1, none⟩ = some (.int .i64 0) := (blk_cell BK210.out 1).trans rfl; have hcz61_2 : w56.cell? ⟨gb210, 2, none⟩ = some (.int .i64 0) := (blk_cell BK210.out 2).trans rfl; have hcz61_3 : w56.cell? ⟨gb210, 3, none⟩ = some (.int .i64 0) := (blk_cell BK210.out 3).trans rfl; have hfz61_0 := blk_frozen BK210.out 0; have hfz61_1 := blk_frozen BK210.out 1; have hfz61_2 := blk_frozen BK210.out 2; have hfz61_3 := blk_frozen BK210.out 3; have hnb62 := NB201_200.out; have hnc62 := NB200_201.out; have hnb63 := NB201_202.out; have hnc63 := NB202_201.out; have hnb64 := NB201_999.out; have hnc64 := NB999_201.out; have hcz65_0 : w56.cell? ⟨gb201, 0, none⟩ = some (.slice A1_0 l1_0.length c1_0) := (blk_cell BK201.out 0).trans rfl; have hcz65_1 : w56.cell? ⟨gb201, 1, none⟩ = some (.slice A1_1 l1_1.length c1_1) := (blk_cell BK201.out 1).trans rfl; have hfz65_0 := blk_frozen BK201.out 0; have hfz65_1 := blk_frozen BK201.out 1; have p211 : 0 ≤ (x42_2 : Int) := oda; have q211 : x42_2 < (l1_0.length : Int) := oda; obtain ⟨ad211, e211, hx211_0⟩ := Kd.at_int HR1_0.out x42_2 p211 q211; cases e211; have hn211_0 : ad211.block ≠ gb210 := Nat.ne_of_lt (Nat.lt_of_lt_of_le (by have := World.block_lt_of_cell? _ _ hx211_0; first | rwa [add_block] at this | exact this) GW210.out); have hn211_1 : ad211.block ≠ gb210 := Nat.ne_of_lt (Nat.lt_of_lt_of_le (by have := World.block_lt_of_cell? _ _ hx211_0; first | rwa [add_block] at this | exact this) GW210.out); have hn211_2 : ad211.block ≠ gb210 := Nat.ne_of_lt (Nat.lt_of_lt_of_le (by have := World.block_lt_of_cell? _ _ hx211_0; first | rwa [add_block] at this | exact this) GW210.out); have hn211_3 : ad211.block ≠ gb210 := Nat.ne_of_lt (Nat.lt_of_lt_of_le (by have := World.block_lt_of_cell? _ _ hx211_0; first | rwa [add_block] at this | exact this) GW210.out); replace hx211_0 := (HB.out.cell (World.block_lt_of_cell? w _ hx211_0)).trans hx211_0; replace hx211_0 := (cell_far (p := ⟨gb210, 0, none⟩) (by first | (rw [add_block]; exact hn211_0) | (show (Addr.add _ _).block ≠ _; rw [add_block]; exact hn211_0) | exact hn211_0) (.int .i64 ((rd_T98 l0_1 x42_2).f0))).trans hx211_0; replace hx211_0 := (cell_far (p := ⟨gb210, 1, none⟩) (by first | (rw [add_block]; exact hn211_1) | (show (Addr.add _ _).block ≠ _; rw [add_block]; exact hn211_1) | exact hn211_1) (.int .i64 ((rd_T98 l0_1 x42_2).f1))).trans hx211_0; replace hx211_0 := (cell_far (p := ⟨gb210, 2, none⟩) (by first | (rw [add_block]; exact hn211_2) | (show (Addr.add _ _).block ≠ _; rw [add_block]; exact hn211_2) | exact hn211_2) (.int .i64 ((rd_T98 l0_1 x42_2).f2))).trans hx211_0; replace hx211_0 := (cell_far (p := ⟨gb210, 3, none⟩) (by first | (rw [add_block]; exact hn211_3) | (show (Addr.add _ _).block ≠ _; rw [add_block]; exact hn211_3) | exact hn211_3) (.int .i64 ((rd_T98 l0_1 x42_2).f3))).trans hx211_0; clear hn211_0; clear hn211_1; clear hn211_2; clear hn211_3; replace p211 := eq_true p211; replace q211 := eq_true q211; have p212 : 0 ≤ (x42_2 : Int) := oda; have q212 : x42_2 < (l1_0.length : Int) := oda; obtain ⟨ad212, e212, hx212_0⟩ := Kd.at_int HR1_0.out x42_2 p212 q212; obtain rfl : ad211 = ad212 := (by injection e212); have hn212_0 : ad211.block ≠ gb210 := Nat.ne_of_lt (Nat.lt_of_lt_of_le (by have := World.block_lt_of_cell? _ _ hx212_0; first | rwa [add_block] at this | exact this) GW210.out); have hn212_1 : ad211.block ≠ gb210 := Nat.ne_of_lt (Nat.lt_of_lt_of_le (by have := World.block_lt_of_cell? _ _ hx212_0; first | rwa [add_block] at this | exact this) GW210.out); have hn212_2 : ad211.block ≠ gb210 := Nat.ne_of_lt (Nat.lt_of_lt_of_le (by have := World.block_lt_of_cell? _ _ hx212_0; first | rwa [add_block] at this | exact this) GW210.out); have hn212_3 : ad211.block ≠ gb210 := Nat.ne_of_lt (Nat.lt_of_lt_of_le (by have := World.block_lt_of_cell? _ _ hx212_0; first | rwa [add_block] at this | exact this) GW210.out); replace hx212_0 := (HB.out.cell (World.block_lt_of_cell? w _ hx212_0)).trans hx212_0; replace hx212_0 := (cell_far (p := ⟨gb210, 0, none⟩) (by first | (rw [add_block]; exact hn212_0) | (show (Addr.add _ _).block ≠ _; rw [add_block]; exact hn212_0) | exact hn212_0) (.int .i64 ((rd_T98 l0_1 x42_2).f0))).trans hx212_0; replace hx212_0 := (cell_far (p := ⟨gb210, 1, none⟩) (by first | (rw [add_block]; exact hn212_1) | (show (Addr.add _ _).block ≠ _; rw [add_block]; exact hn212_1) | exact hn212_1) (.int .i64 ((rd_T98 l0_1 x42_2).f1))).trans hx212_0; replace hx212_0 := (cell_far (p := ⟨gb210, 2, none⟩) (by first | (rw [add_block]; exact hn212_2) | (show (Addr.add _ _).block ≠ _; rw [add_block]; exact hn212_2) | exact hn212_2) (.int .i64 ((rd_T98 l0_1 x42_2).f2))).trans hx212_0; replace hx212_0 := (cell_far (p := ⟨gb210, 3, none⟩) (by first | (rw [add_block]; exact hn212_3) | (show (Addr.add _ _).block ≠ _; rw [add_block]; exact hn212_3) | exact hn212_3) (.int .i64 ((rd_T98 l0_1 x42_2).f3))).trans hx212_0; clear hn212_0; clear hn212_1; clear hn212_2; clear hn212_3; replace p212 := eq_true p212; replace q212 := eq_true q212) | ((with_reducible refine gate_callee (f := 51) rfl ?_); refine goesL_ (some 61) rfl rfl Try.func51 (by kernel_rfl) rfl #[.bool true, .int .i64 221] rfl (by (try simp only [List.map_toArray, List.map_cons, List.map_nil]); first | done | rfl | (simp only [List.length_drop, List.length_take]; rfl)) ?_; (with_reducible refine (proof_need.calls true 221  _ A49.out).mono ?_); rintro e w' ⟨rfl, ⟨nd, rfl⟩⟩; refine ⟨_, rfl, ?_⟩))
           have n0_ : Aside0 (Kd.R (Kd.int .i64) 2 ((((w56.setCell ⟨gb210, 0, none⟩ (.int .i64 ((rd_T98 l0_1 x42_2).f0))).setCell ⟨gb210, 1, none⟩ (.int .i64 ((rd_T98 l0_1 x42_2).f1))).setCell ⟨gb210, 2, none⟩ (.int .i64 ((rd_T98 l0_1 x42_2).f2))).setCell ⟨gb210, 3, none⟩ (.int .i64 ((rd_T98 l0_1 x42_2).f3))) w.heap.size (fun k_ => k_ ≠ gb202) v207 x5_2) := ⟨by exact rx (Kd.R_mono (Kd.R_far (p := ⟨gb210, 3, none⟩) (Kd.R_far (p := ⟨gb210, 2, none⟩) (Kd.R_far (p := ⟨gb210, 1, none⟩) (Kd.R_far (p := ⟨gb210, 0, none⟩) (Kd.R_types HO_5.out BK210.out (by decide)) (fun _ hk => hk.2) (.int .i64 ((rd_T98 l0_1 x42_2).f0))) (fun _ hk => hk.2) (.int .i64 ((rd_T98 l0_1 x42_2).f1))) (fun _ hk => hk.2) (.int .i64 ((rd_T98 l0_1 x42_2).f2))) (fun _ hk => hk.2) (.int .i64 ((rd_T98 l0_1 x42_2).f3))) (fun _ hk => hk.1))⟩
           have n1_ : Aside0 (((((w56.setCell ⟨gb210, 0, none⟩ (.int .i64 ((rd_T98 l0_1 x42_2).f0))).setCell ⟨gb210, 1, none⟩ (.int .i64 ((rd_T98 l0_1 x42_2).f1))).setCell ⟨gb210, 2, none⟩ (.int .i64 ((rd_T98 l0_1 x42_2).f2))).setCell ⟨gb210, 3, none⟩ (.int .i64 ((rd_T98 l0_1 x42_2).f3))).heap[gb200]? = some (.cells #[.int .i64 a0_0, .slice (some ad209) l0_1.length c0_1] 24 (0, 0))) := ⟨by (with_reducible repeat (first | refine blk_drewN ?_ _ | refine blk_drew ?_ | refine blk_alloc ?_ _)); refine blk_far ?_ NB200_210.out _; (with_reducible repeat (first | refine blk_drewN ?_ _ | refine blk_drew ?_ | refine blk_alloc ?_ _)); refine blk_far ?_ NB200_210.out _; (with_reducible repeat (first | refine blk_drewN ?_ _ | refine blk_drew ?_ | refine blk_alloc ?_ _)); refine blk_far ?_ NB200_210.out _; (with_reducible repeat (first | refine blk_drewN ?_ _ | refine blk_drew ?_ | refine blk_alloc ?_ _)); refine blk_far ?_ NB200_210.out _; exact bx BK200.out⟩
           have n2_ : Aside0 (((((w56.setCell ⟨gb210, 0, none⟩ (.int .i64 ((rd_T98 l0_1 x42_2).f0))).setCell ⟨gb210, 1, none⟩ (.int .i64 ((rd_T98 l0_1 x42_2).f1))).setCell ⟨gb210, 2, none⟩ (.int .i64 ((rd_T98 l0_1 x42_2).f2))).setCell ⟨gb210, 3, none⟩ (.int .i64 ((rd_T98 l0_1 x42_2).f3))).heap[gb201]? = some (.cells #[.slice (some ad211) l1_0.length c1_0, .slice A1_1 l1_1.length c1_1] 51 (0, 0))) := ⟨by (with_reducible repeat (first | refine blk_drewN ?_ _ | refine blk_drew ?_ | refine blk_alloc ?_ _)); refine blk_far ?_ NB201_210.out _; (with_reducible repeat (first | refine blk_drewN ?_ _ | refine blk_drew ?_ | refine blk_alloc ?_ _)); refine blk_far ?_ NB201_210.out _; (with_reducible repeat (first | refine blk_drewN ?_ _ | refine blk_drew ?_ | refine blk_alloc ?_ _)); refine blk_far ?_ NB201_210.out _; (with_reducible repeat (first | refine blk_drewN ?_ _ | refine blk_drew ?_ | refine blk_alloc ?_ _)); refine blk_far ?_ NB201_210.out _; exact bx BK201.out⟩
           have n3_ : Aside0 (((((w56.setCell ⟨gb210, 0, none⟩ (.int .i64 ((rd_T98 l0_1 x42_2).f0))).setCell ⟨gb210, 1, none⟩ (.int .i64 ((rd_T98 l0_1 x42_2).f1))).setCell ⟨gb210, 2, none⟩ (.int .i64 ((rd_T98 l0_1 x42_2).f2))).setCell ⟨gb210, 3, none⟩ (.int .i64 ((rd_T98 l0_1 x42_2).f3))).heap[gb202]? = some (.cells #[.int .i64 a2] 2 (0, 0))) := ⟨by (with_reducible repeat (first | refine blk_drewN ?_ _ | refine blk_drew ?_ | refine blk_alloc ?_ _)); refine blk_far ?_ NB202_210.out _; (with_reducible repeat (first | refine blk_drewN ?_ _ | refine blk_drew ?_ | refine blk_alloc ?_ _)); refine blk_far ?_ NB202_210.out _; (with_reducible repeat (first | refine blk_drewN ?_ _ | refine blk_drew ?_ | refine blk_alloc ?_ _)); refine blk_far ?_ NB202_210.out _; (with_reducible repeat (first | refine blk_drewN ?_ _ | refine blk_drew ?_ | refine blk_alloc ?_ _)); refine blk_far ?_ NB202_210.out _; exact bx BK202.out⟩
           have n4_ : Aside0 (((((w56.setCell ⟨gb210, 0, none⟩ (.int .i64 ((rd_T98 l0_1 x42_2).f0))).setCell ⟨gb210, 1, none⟩ (.int .i64 ((rd_T98 l0_1 x42_2).f1))).setCell ⟨gb210, 2, none⟩ (.int .i64 ((rd_T98 l0_1 x42_2).f2))).setCell ⟨gb210, 3, none⟩ (.int .i64 ((rd_T98 l0_1 x42_2).f3))).heap[gbx]? = some (.cells #[.int .i64 0] 30 (0, 0))) := ⟨by (with_reducible repeat (first | refine blk_drewN ?_ _ | refine blk_drew ?_ | refine blk_alloc ?_ _)); refine blk_far ?_ NB999_210.out _; (with_reducible repeat (first | refine blk_drewN ?_ _ | refine blk_drew ?_ | refine blk_alloc ?_ _)); refine blk_far ?_ NB999_210.out _; (with_reducible repeat (first | refine blk_drewN ?_ _ | refine blk_drew ?_ | refine blk_alloc ?_ _)); refine blk_far ?_ NB999_210.out _; (with_reducible repeat (first | refine blk_drewN ?_ _ | refine blk_drew ?_ | refine blk_alloc ?_ _)); refine blk_far ?_ NB999_210.out _; exact bx BK999.out⟩
           have n5_ : Aside0 (((((w56.setCell ⟨gb210, 0, none⟩ (.int .i64 ((rd_T98 l0_1 x42_2).f0))).setCell ⟨gb210, 1, none⟩ (.int .i64 ((rd_T98 l0_1 x42_2).f1))).setCell ⟨gb210, 2, none⟩ (.int .i64 ((rd_T98 l0_1 x42_2).f2))).setCell ⟨gb210, 3, none⟩ (.int .i64 ((rd_T98 l0_1 x42_2).f3))).heap[gb210]? = some (.cells #[.int .i64 ((rd_T98 l0_1 x42_2).f0), .int .i64 ((rd_T98 l0_1 x42_2).f1), .int .i64 ((rd_T98 l0_1 x42_2).f2), .int .i64 ((rd_T98 l0_1 x42_2).f3)] 98 (0, 0))) := ⟨by (with_reducible repeat (first | refine blk_drewN ?_ _ | refine blk_drew ?_ | refine blk_alloc ?_ _)); refine blk_put (cs := #[.int .i64 ((rd_T98 l0_1 x42_2).f0), .int .i64 ((rd_T98 l0_1 x42_2).f1), .int .i64 ((rd_T98 l0_1 x42_2).f2), .int .i64 0]) ?_ 3 _ rfl; (with_reducible repeat (first | refine blk_drewN ?_ _ | refine blk_drew ?_ | refine blk_alloc ?_ _)); refine blk_put (cs := #[.int .i64 ((rd_T98 l0_1 x42_2).f0), .int .i64 ((rd_T98 l0_1 x42_2).f1), .int .i64 0, .int .i64 0]) ?_ 2 _ rfl; (with_reducible repeat (first | refine blk_drewN ?_ _ | refine blk_drew ?_ | refine blk_alloc ?_ _)); refine blk_put (cs := #[.int .i64 ((rd_T98 l0_1 x42_2).f0), .int .i64 0, .int .i64 0, .int .i64 0]) ?_ 1 _ rfl; (with_reducible repeat (first | refine blk_drewN ?_ _ | refine blk_drew ?_ | refine blk_alloc ?_ _)); refine blk_put (cs := #[.int .i64 0, .int .i64 0, .int .i64 0, .int .i64 0]) ?_ 0 _ rfl; exact bx BK210.out⟩
           have n6_ : Aside0 (Below w.heap.size w ((((w56.setCell ⟨gb210, 0, none⟩ (.int .i64 ((rd_T98 l0_1 x42_2).f0))).setCell ⟨gb210, 1, none⟩ (.int .i64 ((rd_T98 l0_1 x42_2).f1))).setCell ⟨gb210, 2, none⟩ (.int .i64 ((rd_T98 l0_1 x42_2).f2))).setCell ⟨gb210, 3, none⟩ (.int .i64 ((rd_T98 l0_1 x42_2).f3)))) := ⟨lb⟩
           (try clear HO_5)
           (try clear BK200)
           (try clear BK201)
           (try clear BK202)
           (try clear BK999)
           (try clear BK210)
           (try clear HB)
           generalize ((((w56.setCell ⟨gb210, 0, none⟩ (.int .i64 ((rd_T98 l0_1 x42_2).f0))).setCell ⟨gb210, 1, none⟩ (.int .i64 ((rd_T98 l0_1 x42_2).f1))).setCell ⟨gb210, 2, none⟩ (.int .i64 ((rd_T98 l0_1 x42_2).f2))).setCell ⟨gb210, 3, none⟩ (.int .i64 ((rd_T98 l0_1 x42_2).f3))) = w66 at n0_ n1_ n2_ n3_ n4_ n5_ n6_ ⊢
           have HO_5 := n0_
           have BK200 := n1_
           have BK201 := n2_
           have BK202 := n3_
           have BK999 := n4_
           have BK210 := n5_
           have HB := n6_
           clear n0_ n1_ n2_ n3_ n4_ n5_ n6_
           (try (rw [drewN_self w66]; generalize hq_ : World.drewN w66 _ = w66; have n0_ : Aside0 (Kd.R (Kd.int .i64) 2 w66 w.heap.size (fun k_ => k_ ≠ gb202) v207 x5_2) := ⟨by rw [← hq_]; exact (rx HO_5.out)⟩; have n1_ : Aside0 (w66.heap[gb200]? = some (.cells #[.int .i64 a0_0, .slice (some ad209) l0_1.length c0_1] 24 (0, 0))) := ⟨by rw [← hq_]; exact (bx BK200.out)⟩; have n2_ : Aside0 (w66.heap[gb201]? = some (.cells #[.slice (some ad211) l1_0.length c1_0, .slice A1_1 l1_1.length c1_1] 51 (0, 0))) := ⟨by rw [← hq_]; exact (bx BK201.out)⟩; have n3_ : Aside0 (w66.heap[gb202]? = some (.cells #[.int .i64 a2] 2 (0, 0))) := ⟨by rw [← hq_]; exact (bx BK202.out)⟩; have n4_ : Aside0 (w66.heap[gb210]? = some (.cells #[.int .i64 ((rd_T98 l0_1 x42_2).f0), .int .i64 ((rd_T98 l0_1 x42_2).f1), .int .i64 ((rd_T98 l0_1 x42_2).f2), .int .i64 ((rd_T98 l0_1 x42_2).f3)] 98 (0, 0))) := ⟨by rw [← hq_]; exact (bx BK210.out)⟩; have n5_ : Aside0 (w66.heap[gbx]? = some (.cells #[.int .i64 0] 30 (0, 0))) := ⟨by rw [← hq_]; exact (bx BK999.out)⟩; have n6_ : Aside0 (Below w.heap.size w w66) := ⟨by rw [← hq_]; exact lb⟩; clear HO_5 BK200 BK201 BK202 BK210 BK999 HB hq_; have HO_5 := n0_; have BK200 := n1_; have BK201 := n2_; have BK202 := n3_; have BK210 := n4_; have BK999 := n5_; have HB := n6_; clear n0_ n1_ n2_ n3_ n4_ n5_ n6_))
           have n0_ := ak (Kd.R_drew HO_5.out)
           have n1_ := ak (blk_drew BK200.out)
           have n2_ := ak (blk_drew BK201.out)
           have n3_ := ak (blk_drew BK202.out)
           have n4_ := ak (blk_drew BK999.out)
           have n5_ := ak (blk_drew BK210.out)
           have n6_ := ak (below_drew1 HB.out)
           clear HO_5
           clear BK200
           clear BK201
           clear BK202
           clear BK999
           clear BK210
           clear HB
           have HO_5 := n0_
           have BK200 := n1_
           have BK201 := n2_
           have BK202 := n3_
           have BK999 := n4_
           have BK210 := n5_
           have HB := n6_
           clear n0_ n1_ n2_ n3_ n4_ n5_ n6_
           obtain ⟨Ao68, co68, eo68⟩ := Kd.R_slice HO_5.out
           (first | subst eo68 | (injection eo68 with f1_ f2_ f3_; have f4_ := f1_.symm; have f5_ := f3_.symm; clear f1_ f2_ f3_; subst f4_; subst f5_))
           have p213 : 0 ≤ (((rd_T98 l0_1 x42_2).f0) : Int) := oda
           have q213 : ((rd_T98 l0_1 x42_2).f0) < (x5_2.length : Int) := oda
           obtain ⟨ad213, e213, hx213_0⟩ := Kd.at_int (Kd.R_reads' HO_5.out).2.2 ((rd_T98 l0_1 x42_2).f0) p213 q213
           cases e213
           replace p213 := eq_true p213
           replace q213 := eq_true q213
           have p214 : 0 ≤ (x42_2 : Int) := oda
           have q214 : x42_2 < (l1_0.length : Int) := oda
           obtain ⟨ad214, e214, hx214_0⟩ := Kd.at_int HR1_0.out x42_2 p214 q214
           have hw214_0 := hx214_0
           obtain rfl : ad211 = ad214 := (by injection e214)
           (try replace hx214_0 := (HB.out.cell (World.block_lt_of_cell? w _ hx214_0)).trans hx214_0)
           replace p214 := eq_true p214
           replace q214 := eq_true q214
           have p52 : 0 ≤ (((rd_T98 l0_1 x42_2).f0) : Int) := oda
           have q52 : (((rd_T98 l0_1 x42_2).f0) : Int) < ((x5_2.length : Int) : Int) := oda
           obtain ⟨go52, co52, eo52, gb52, gl52, cl52, HG52⟩ := Kd.R_form HO_5.out (by omega)
           (first | cases eo52 | (injection eo52 with ea_ en_ ec_; (first | subst ea_ | (injection ea_ with ea_; subst ea_)); subst ec_; clear en_))
           have GB52 := ak gb52
           have GG52 := ak HG52
           clear gb52 gl52 HG52
           (first | simp only [add_plain] at hx213_0 | skip)
           obtain ⟨hx52_0, hf52_0⟩ := Kd.R_celln 0 HO_5.out (((rd_T98 l0_1 x42_2).f0) : Int) p52 q52
           replace p52 := eq_true p52
           replace q52 := eq_true q52
           have HP69 := Kd.R_putn HO_5.out (((rd_T98 l0_1 x42_2).f0) : Int) (wrap64 ((rd x5_2 ((rd_T98 l0_1 x42_2).f0)) + (rd l1_0 x42_2)))
           rw [← Ny215.out] at HP69
           have HQ69 := ak HP69
           clear HP69
           refine start_ (n := 13) (S := fun w' => w'.cell? ⟨gb210, 0, none⟩ = some (.int .i64 ((rd_T98 l0_1 x42_2).f0)) ∧ w'.cell? ⟨gb210, 1, none⟩ = some (.int .i64 ((rd_T98 l0_1 x42_2).f1)) ∧ w'.cell? ⟨gb210, 2, none⟩ = some (.int .i64 ((rd_T98 l0_1 x42_2).f2)) ∧ w'.cell? ⟨gb210, 3, none⟩ = some (.int .i64 ((rd_T98 l0_1 x42_2).f3)) ∧ w'.cell? ⟨gb201, 0, none⟩ = some (.slice (some ad211) l1_0.length c1_0) ∧ w'.cell? ⟨gb201, 1, none⟩ = some (.slice A1_1 l1_1.length c1_1) ∧ w'.cell? ⟨go52, (((rd_T98 l0_1 x42_2).f0)).toNat, none⟩ = some (.int .i64 (rd x5_2 ((rd_T98 l0_1 x42_2).f0))) ∧ w'.cell? (ad211.add (x42_2).toNat) = some (.int .i64 (rd l1_0 x42_2))) (ds := [12]) #[false, false, false, false, false, false, false, false, false, false, false, false, false] (by kernel_rfl) rfl rfl ⟨(blk_cell BK210.out 0).trans rfl, (blk_cell BK210.out 1).trans rfl, (blk_cell BK210.out 2).trans rfl, (blk_cell BK210.out 3).trans rfl, (blk_cell BK201.out 0).trans rfl, (blk_cell BK201.out 1).trans rfl, hx213_0, ((HB.out.cell (World.block_lt_of_cell? w _ hw214_0)).trans hw214_0)⟩ (fun hHeld => ?_); refine with_tabW proof_Postman_1.tab12 proof_Postman_1.bits12 (fun HT_ HW_ => ?_)
           generalize w66.drew = w67 at HO_5 BK200 BK201 BK202 BK999 BK210 HB GG52 HQ69 hf52_0 hx213_0 hx214_0 hx52_0 hHeld ⊢
           refine pure_ (i := 0) (N := some 62) (v := ?_) (a' := ?_) #[true, false, false, false, false, false, false, false, false, false, false, false, false] rfl rfl (any_of HT_.out (by kernel_rfl)) (fun _ _ _ h => h) (Or.inl ⟨by rfl, ?_⟩) ?_ ?_; rotate_left; intro w'; go_simp; with_reducible rfl; rotate_left; simp only [Act.put, List.setIfInBounds_toArray, List.set_cons_zero, List.set_cons_succ, i64_w, i32_w]; rfl
           refine pure_ (i := 1) (N := some 63) (v := ?_) (a' := ?_) #[true, true, false, false, false, false, false, false, false, false, false, false, false] rfl rfl (any_of HT_.out (by kernel_rfl)) (fun _ _ _ h => h) (Or.inl ⟨by rfl, ?_⟩) ?_ ?_; rotate_left; intro w'; go_simp; with_reducible rfl; rotate_left; simp only [Act.put, List.setIfInBounds_toArray, List.set_cons_zero, List.set_cons_succ, i64_w, i32_w]; rfl
           refine pure_ (i := 5) (N := some 67) (v := ?_) (a' := ?_) #[true, true, false, false, false, true, false, false, false, false, false, false, false] rfl rfl (any_of HT_.out (by kernel_rfl)) (fun _ _ _ h => h) (Or.inl ⟨by rfl, ?_⟩) ?_ ?_; rotate_left; intro w'; go_simp; with_reducible rfl; rotate_left; simp only [Act.put, List.setIfInBounds_toArray, List.set_cons_zero, List.set_cons_succ, i64_w, i32_w]; rfl
           refine pure_ (i := 7) (N := some 69) (v := ?_) (a' := ?_) #[true, true, false, false, false, true, false, true, false, false, false, false, false] rfl rfl (any_of HT_.out (by kernel_rfl)) (fun _ _ _ h => h) (Or.inl ⟨by rfl, ?_⟩) ?_ ?_; rotate_left; intro w'; go_simp; with_reducible rfl; rotate_left; simp only [Act.put, List.setIfInBounds_toArray, List.set_cons_zero, List.set_cons_succ, i64_w, i32_w]; rfl
           refine take_ (i := 2) (N := some 64) (v := ?_) (a' := ?_) #[true, true, true, false, false, true, false, true, false, false, false, false, false] rfl rfl (take_ofW HT_.out HW_.out (by kernel_rfl)) (fun _ _ _ h => h) (Or.inl ⟨by rfl, ?_⟩) hHeld ?_ ?_; rotate_left; rintro w' ⟨s0, s1, s2, s3, s4, s5, s6, s7⟩; go_simp; with_reducible rfl; rotate_left; simp only [Act.put, List.setIfInBounds_toArray, List.set_cons_zero, List.set_cons_succ, i64_w, i32_w]; rfl
           refine pure_ (i := 3) (N := some 65) (v := ?_) (a' := ?_) #[true, true, true, true, false, true, false, true, false, false, false, false, false] rfl rfl (any_of HT_.out (by kernel_rfl)) (fun _ _ _ h => h) (Or.inl ⟨by rfl, ?_⟩) ?_ ?_; rotate_left; intro w'; go_simp; with_reducible rfl; rotate_left; simp only [Act.put, List.setIfInBounds_toArray, List.set_cons_zero, List.set_cons_succ, i64_w, i32_w]; rfl
           refine take_ (i := 4) (N := some 66) (v := ?_) (a' := ?_) #[true, true, true, true, true, true, false, true, false, false, false, false, false] rfl rfl (take_ofW HT_.out HW_.out (by kernel_rfl)) (fun _ _ _ h => h) (Or.inl ⟨by rfl, ?_⟩) hHeld ?_ ?_; rotate_left; rintro w' ⟨s0, s1, s2, s3, s4, s5, s6, s7⟩; go_simp; with_reducible rfl; rotate_left; simp only [Act.put, List.setIfInBounds_toArray, List.set_cons_zero, List.set_cons_succ, i64_w, i32_w]; rfl
           refine take_ (i := 6) (N := some 68) (v := ?_) (a' := ?_) #[true, true, true, true, true, true, true, true, false, false, false, false, false] rfl rfl (take_ofW HT_.out HW_.out (by kernel_rfl)) (fun _ _ _ h => h) (Or.inl ⟨by rfl, ?_⟩) hHeld ?_ ?_; rotate_left; rintro w' ⟨s0, s1, s2, s3, s4, s5, s6, s7⟩; go_simp; with_reducible rfl; rotate_left; simp only [Act.put, List.setIfInBounds_toArray, List.set_cons_zero, List.set_cons_succ, i64_w, i32_w]; rfl
           refine pure_ (i := 8) (N := some 70) (v := ?_) (a' := ?_) #[true, true, true, true, true, true, true, true, true, false, false, false, false] rfl rfl (any_of HT_.out (by kernel_rfl)) (fun _ _ _ h => h) (Or.inl ⟨by rfl, ?_⟩) ?_ ?_; rotate_left; intro w'; go_simp; with_reducible rfl; rotate_left; simp only [Act.put, List.setIfInBounds_toArray, List.set_cons_zero, List.set_cons_succ, i64_w, i32_w]; rfl
           refine take_ (i := 9) (N := some 71) (v := ?_) (a' := ?_) #[true, true, true, true, true, true, true, true, true, true, false, false, false] rfl rfl (take_ofW HT_.out HW_.out (by kernel_rfl)) (fun _ _ _ h => h) (Or.inl ⟨by rfl, ?_⟩) hHeld ?_ ?_; rotate_left; rintro w' ⟨s0, s1, s2, s3, s4, s5, s6, s7⟩; go_simp; with_reducible rfl; rotate_left; simp only [Act.put, List.setIfInBounds_toArray, List.set_cons_zero, List.set_cons_succ, i64_w, i32_w]; rfl
           refine pure_ (i := 10) (N := some 72) (v := ?_) (a' := ?_) #[true, true, true, true, true, true, true, true, true, true, true, false, false] rfl rfl (any_of HT_.out (by kernel_rfl)) (fun _ _ _ h => h) (Or.inl ⟨by rfl, ?_⟩) ?_ ?_; rotate_left; intro w'; go_simp; with_reducible rfl; rotate_left; simp only [Act.put, List.setIfInBounds_toArray, List.set_cons_zero, List.set_cons_succ, i64_w, i32_w]; rfl
           refine pure_ (i := 11) (N := some 73) (v := ?_) (a' := ?_) #[true, true, true, true, true, true, true, true, true, true, true, true, false] rfl rfl (any_of HT_.out (by kernel_rfl)) (fun _ _ _ h => h) (Or.inl ⟨by rfl, ?_⟩) ?_ ?_; rotate_left; intro w'; go_simp; with_reducible rfl; rotate_left; simp only [Act.put, List.setIfInBounds_toArray, List.set_cons_zero, List.set_cons_succ, i64_w, i32_w]; rfl
           refine last_ (i := 12) (N := none) #[true, true, true, true, true, true, true, true, true, true, true, true, true] rfl rfl (one_of HT_.out (by kernel_rfl)) (by decide) (fun K hK => ?_)
           refine skip_ (w1 := ?_) (by rfl) rfl ?_ ?_
           rotate_left
           ·
            go_simp
            rfl
           refine hK.out _ _ ?_
           clear hK K
           refine done_ (done_of HT_.out (by kernel_rfl)) ?_
           try go_wp2
           have n0_ : Aside0 (Kd.R (Kd.int .i64) 2 (w67.setCell ⟨go52, (((rd_T98 l0_1 x42_2).f0) : Int).toNat, none⟩ (.int .i64 (wrap64 ((rd x5_2 ((rd_T98 l0_1 x42_2).f0)) + (rd l1_0 x42_2))))) w.heap.size (fun k_ => k_ ≠ gb202) (.slice (some ⟨go52, 0, none⟩) x5_2.length co68) y215) := ⟨by (with_reducible repeat (first | apply Kd.R_alloc | apply Kd.R_drewN | apply Kd.R_drew)); exact HQ69.out⟩
           have n1_ : Aside0 ((w67.setCell ⟨go52, (((rd_T98 l0_1 x42_2).f0) : Int).toNat, none⟩ (.int .i64 (wrap64 ((rd x5_2 ((rd_T98 l0_1 x42_2).f0)) + (rd l1_0 x42_2))))).heap[gb200]? = some (.cells #[.int .i64 a0_0, .slice (some ad209) l0_1.length c0_1] 24 (0, 0))) := ⟨by (with_reducible repeat (first | refine blk_drewN ?_ _ | refine blk_drew ?_ | refine blk_alloc ?_ _)); refine blk_far ?_ (by have h_ := Kd.R_ne HO_5.out BK200.out (by decide); intro e_; exact h_ (by rw [e_]; rfl)) _; exact bx BK200.out⟩
           have n2_ : Aside0 ((w67.setCell ⟨go52, (((rd_T98 l0_1 x42_2).f0) : Int).toNat, none⟩ (.int .i64 (wrap64 ((rd x5_2 ((rd_T98 l0_1 x42_2).f0)) + (rd l1_0 x42_2))))).heap[gb201]? = some (.cells #[.slice (some ad211) l1_0.length c1_0, .slice A1_1 l1_1.length c1_1] 51 (0, 0))) := ⟨by (with_reducible repeat (first | refine blk_drewN ?_ _ | refine blk_drew ?_ | refine blk_alloc ?_ _)); refine blk_far ?_ (by have h_ := Kd.R_ne HO_5.out BK201.out (by decide); intro e_; exact h_ (by rw [e_]; rfl)) _; exact bx BK201.out⟩
           have n3_ : Aside0 ((w67.setCell ⟨go52, (((rd_T98 l0_1 x42_2).f0) : Int).toNat, none⟩ (.int .i64 (wrap64 ((rd x5_2 ((rd_T98 l0_1 x42_2).f0)) + (rd l1_0 x42_2))))).heap[gb202]? = some (.cells #[.int .i64 a2] 2 (0, 0))) := ⟨by (with_reducible repeat (first | refine blk_drewN ?_ _ | refine blk_drew ?_ | refine blk_alloc ?_ _)); refine blk_far ?_ (by have h_ := Kd.R_away HO_5.out (fun _ hk => hk); intro e_; exact h_ (by rw [e_]; rfl)) _; exact bx BK202.out⟩
           have n4_ : Aside0 ((w67.setCell ⟨go52, (((rd_T98 l0_1 x42_2).f0) : Int).toNat, none⟩ (.int .i64 (wrap64 ((rd x5_2 ((rd_T98 l0_1 x42_2).f0)) + (rd l1_0 x42_2))))).heap[gbx]? = some (.cells #[.int .i64 0] 30 (0, 0))) := ⟨by (with_reducible repeat (first | refine blk_drewN ?_ _ | refine blk_drew ?_ | refine blk_alloc ?_ _)); refine blk_far ?_ (by have h_ := Kd.R_ne HO_5.out BK999.out (by decide); intro e_; exact h_ (by rw [e_]; rfl)) _; exact bx BK999.out⟩
           have n5_ : Aside0 ((w67.setCell ⟨go52, (((rd_T98 l0_1 x42_2).f0) : Int).toNat, none⟩ (.int .i64 (wrap64 ((rd x5_2 ((rd_T98 l0_1 x42_2).f0)) + (rd l1_0 x42_2))))).heap[gb210]? = some (.cells #[.int .i64 ((rd_T98 l0_1 x42_2).f0), .int .i64 ((rd_T98 l0_1 x42_2).f1), .int .i64 ((rd_T98 l0_1 x42_2).f2), .int .i64 ((rd_T98 l0_1 x42_2).f3)] 98 (0, 0))) := ⟨by (with_reducible repeat (first | refine blk_drewN ?_ _ | refine blk_drew ?_ | refine blk_alloc ?_ _)); refine blk_far ?_ (by have h_ := Kd.R_ne HO_5.out BK210.out (by decide); intro e_; exact h_ (by rw [e_]; rfl)) _; exact bx BK210.out⟩
           have n6_ : Aside0 (Below w.heap.size w (w67.setCell ⟨go52, (((rd_T98 l0_1 x42_2).f0) : Int).toNat, none⟩ (.int .i64 (wrap64 ((rd x5_2 ((rd_T98 l0_1 x42_2).f0)) + (rd l1_0 x42_2)))))) := ⟨by repeat (first | (with_reducible first | exact HB.out | apply below_alloc | apply pw_below_drewN | apply below_drew1 | refine below_set ?_ GB52.out | refine below_set ?_ GE200.out | refine below_set ?_ GE201.out | refine below_set ?_ GE202.out | refine below_set ?_ GE999.out | refine below_set ?_ GE210.out) | exact HB.out)⟩
           (try clear HO_5)
           (try clear BK200)
           (try clear BK201)
           (try clear BK202)
           (try clear BK999)
           (try clear BK210)
           (try clear HB)
           generalize (w67.setCell ⟨go52, (((rd_T98 l0_1 x42_2).f0) : Int).toNat, none⟩ (.int .i64 (wrap64 ((rd x5_2 ((rd_T98 l0_1 x42_2).f0)) + (rd l1_0 x42_2))))) = w70 at n0_ n1_ n2_ n3_ n4_ n5_ n6_ ⊢
           have HO_5 := n0_
           have BK200 := n1_
           have BK201 := n2_
           have BK202 := n3_
           have BK999 := n4_
           have BK210 := n5_
           have HB := n6_
           clear n0_ n1_ n2_ n3_ n4_ n5_ n6_
           have n0_ := ak (Kd.R_drew HO_5.out)
           have n1_ := ak (blk_drew BK200.out)
           have n2_ := ak (blk_drew BK201.out)
           have n3_ := ak (blk_drew BK202.out)
           have n4_ := ak (blk_drew BK999.out)
           have n5_ := ak (blk_drew BK210.out)
           have n6_ := ak (below_drew1 HB.out)
           clear HO_5
           clear BK200
           clear BK201
           clear BK202
           clear BK999
           clear BK210
           clear HB
           have HO_5 := n0_
           have BK200 := n1_
           have BK201 := n2_
           have BK202 := n3_
           have BK999 := n4_
           have BK210 := n5_
           have HB := n6_
           clear n0_ n1_ n2_ n3_ n4_ n5_ n6_
           have p216 : 0 ≤ (((rd_T98 l0_1 x42_2).f1) : Int) := oda
           have q216 : ((rd_T98 l0_1 x42_2).f1) < (y215.length : Int) := (by have h_ : (((rd_T98 l0_1 x42_2).f1) : Int) < ((x5_2.length : Int) : Int) := oda; first | (have e_ := (Kd.R_reads' HO_5.out).1; omega) | simpa only [Ny215.out, List.length_set] using h_)
           have ql216 : ((((rd_T98 l0_1 x42_2).f1) : Int) < ((x5_2.length : Int) : Int)) = True := eq_true (oda)
           obtain ⟨ad216, e216, hx216_0⟩ := Kd.at_int (Kd.R_reads' HO_5.out).2.2 ((rd_T98 l0_1 x42_2).f1) p216 q216
           obtain rfl : (⟨go52, 0, none⟩ : Addr) = ad216 := (by injection e216)
           (first | simp only [add_plain] at hx216_0 | simp only [add_at] at hx216_0 | simp only [Addr.add, Nat.zero_add] at hx216_0 | skip)
           replace p216 := eq_true p216
           replace q216 := eq_true q216
           have p217 : 0 ≤ (x42_2 : Int) := oda
           have q217 : x42_2 < (l1_0.length : Int) := oda
           obtain ⟨ad217, e217, hx217_0⟩ := Kd.at_int HR1_0.out x42_2 p217 q217
           have hw217_0 := hx217_0
           obtain rfl : ad211 = ad217 := (by injection e217)
           (try replace hx217_0 := (HB.out.cell (World.block_lt_of_cell? w _ hx217_0)).trans hx217_0)
           replace p217 := eq_true p217
           replace q217 := eq_true q217
           have p55 : 0 ≤ (((rd_T98 l0_1 x42_2).f1) : Int) := oda
           have q55 : (((rd_T98 l0_1 x42_2).f1) : Int) < ((x5_2.length : Int) : Int) := oda
           obtain ⟨hx55_0, hf55_0⟩ := Kd.R_celln 0 HO_5.out (((rd_T98 l0_1 x42_2).f1) : Int) p55 q55
           replace p55 := eq_true p55
           replace q55 := eq_true q55
           have HP72 := Kd.R_putn HO_5.out (((rd_T98 l0_1 x42_2).f1) : Int) (wrap64 ((rd y215 ((rd_T98 l0_1 x42_2).f1)) - (rd l1_0 x42_2)))
           rw [← Ny218.out] at HP72
           have HQ72 := ak HP72
           clear HP72
           refine start_ (n := 13) (S := fun w' => w'.cell? ⟨gb210, 0, none⟩ = some (.int .i64 ((rd_T98 l0_1 x42_2).f0)) ∧ w'.cell? ⟨gb210, 1, none⟩ = some (.int .i64 ((rd_T98 l0_1 x42_2).f1)) ∧ w'.cell? ⟨gb210, 2, none⟩ = some (.int .i64 ((rd_T98 l0_1 x42_2).f2)) ∧ w'.cell? ⟨gb210, 3, none⟩ = some (.int .i64 ((rd_T98 l0_1 x42_2).f3)) ∧ w'.cell? ⟨gb201, 0, none⟩ = some (.slice (some ad211) l1_0.length c1_0) ∧ w'.cell? ⟨gb201, 1, none⟩ = some (.slice A1_1 l1_1.length c1_1) ∧ w'.cell? ⟨go52, (((rd_T98 l0_1 x42_2).f1)).toNat, none⟩ = some (.int .i64 (rd y215 ((rd_T98 l0_1 x42_2).f1))) ∧ w'.cell? (ad211.add (x42_2).toNat) = some (.int .i64 (rd l1_0 x42_2))) (ds := [12]) #[false, false, false, false, false, false, false, false, false, false, false, false, false] (by kernel_rfl) rfl rfl ⟨(blk_cell BK210.out 0).trans rfl, (blk_cell BK210.out 1).trans rfl, (blk_cell BK210.out 2).trans rfl, (blk_cell BK210.out 3).trans rfl, (blk_cell BK201.out 0).trans rfl, (blk_cell BK201.out 1).trans rfl, hx216_0, ((HB.out.cell (World.block_lt_of_cell? w _ hw217_0)).trans hw217_0)⟩ (fun hHeld => ?_); refine with_tabW proof_Postman_1.tab13 proof_Postman_1.bits13 (fun HT_ HW_ => ?_)
           generalize w70.drew = w71 at HO_5 BK200 BK201 BK202 BK999 BK210 HB HQ69 HQ72 hf55_0 hx216_0 hx217_0 hx55_0 hHeld ⊢
           refine pure_ (i := 0) (N := some 74) (v := ?_) (a' := ?_) #[true, false, false, false, false, false, false, false, false, false, false, false, false] rfl rfl (any_of HT_.out (by kernel_rfl)) (fun _ _ _ h => h) (Or.inl ⟨by rfl, ?_⟩) ?_ ?_; rotate_left; intro w'; go_simp; with_reducible rfl; rotate_left; simp only [Act.put, List.setIfInBounds_toArray, List.set_cons_zero, List.set_cons_succ, i64_w, i32_w]; rfl
           refine pure_ (i := 1) (N := some 75) (v := ?_) (a' := ?_) #[true, true, false, false, false, false, false, false, false, false, false, false, false] rfl rfl (any_of HT_.out (by kernel_rfl)) (fun _ _ _ h => h) (Or.inl ⟨by rfl, ?_⟩) ?_ ?_; rotate_left; intro w'; go_simp; with_reducible rfl; rotate_left; simp only [Act.put, List.setIfInBounds_toArray, List.set_cons_zero, List.set_cons_succ, i64_w, i32_w]; rfl
           refine pure_ (i := 5) (N := some 79) (v := ?_) (a' := ?_) #[true, true, false, false, false, true, false, false, false, false, false, false, false] rfl rfl (any_of HT_.out (by kernel_rfl)) (fun _ _ _ h => h) (Or.inl ⟨by rfl, ?_⟩) ?_ ?_; rotate_left; intro w'; go_simp; with_reducible rfl; rotate_left; simp only [Act.put, List.setIfInBounds_toArray, List.set_cons_zero, List.set_cons_succ, i64_w, i32_w]; rfl
           refine pure_ (i := 7) (N := some 81) (v := ?_) (a' := ?_) #[true, true, false, false, false, true, false, true, false, false, false, false, false] rfl rfl (any_of HT_.out (by kernel_rfl)) (fun _ _ _ h => h) (Or.inl ⟨by rfl, ?_⟩) ?_ ?_; rotate_left; intro w'; go_simp; with_reducible rfl; rotate_left; simp only [Act.put, List.setIfInBounds_toArray, List.set_cons_zero, List.set_cons_succ, i64_w, i32_w]; rfl
           refine take_ (i := 2) (N := some 76) (v := ?_) (a' := ?_) #[true, true, true, false, false, true, false, true, false, false, false, false, false] rfl rfl (take_ofW HT_.out HW_.out (by kernel_rfl)) (fun _ _ _ h => h) (Or.inl ⟨by rfl, ?_⟩) hHeld ?_ ?_; rotate_left; rintro w' ⟨s0, s1, s2, s3, s4, s5, s6, s7⟩; go_simp; with_reducible rfl; rotate_left; simp only [Act.put, List.setIfInBounds_toArray, List.set_cons_zero, List.set_cons_succ, i64_w, i32_w]; rfl
           refine pure_ (i := 3) (N := some 77) (v := ?_) (a' := ?_) #[true, true, true, true, false, true, false, true, false, false, false, false, false] rfl rfl (any_of HT_.out (by kernel_rfl)) (fun _ _ _ h => h) (Or.inl ⟨by rfl, ?_⟩) ?_ ?_; rotate_left; intro w'; go_simp; with_reducible rfl; rotate_left; simp only [Act.put, List.setIfInBounds_toArray, List.set_cons_zero, List.set_cons_succ, i64_w, i32_w]; rfl
           refine take_ (i := 4) (N := some 78) (v := ?_) (a' := ?_) #[true, true, true, true, true, true, false, true, false, false, false, false, false] rfl rfl (take_ofW HT_.out HW_.out (by kernel_rfl)) (fun _ _ _ h => h) (Or.inl ⟨by rfl, ?_⟩) hHeld ?_ ?_; rotate_left; rintro w' ⟨s0, s1, s2, s3, s4, s5, s6, s7⟩; go_simp; with_reducible rfl; rotate_left; simp only [Act.put, List.setIfInBounds_toArray, List.set_cons_zero, List.set_cons_succ, i64_w, i32_w]; rfl
           refine take_ (i := 6) (N := some 80) (v := ?_) (a' := ?_) #[true, true, true, true, true, true, true, true, false, false, false, false, false] rfl rfl (take_ofW HT_.out HW_.out (by kernel_rfl)) (fun _ _ _ h => h) (Or.inl ⟨by rfl, ?_⟩) hHeld ?_ ?_; rotate_left; rintro w' ⟨s0, s1, s2, s3, s4, s5, s6, s7⟩; go_simp; with_reducible rfl; rotate_left; simp only [Act.put, List.setIfInBounds_toArray, List.set_cons_zero, List.set_cons_succ, i64_w, i32_w]; rfl
           refine pure_ (i := 8) (N := some 82) (v := ?_) (a' := ?_) #[true, true, true, true, true, true, true, true, true, false, false, false, false] rfl rfl (any_of HT_.out (by kernel_rfl)) (fun _ _ _ h => h) (Or.inl ⟨by rfl, ?_⟩) ?_ ?_; rotate_left; intro w'; go_simp; with_reducible rfl; rotate_left; simp only [Act.put, List.setIfInBounds_toArray, List.set_cons_zero, List.set_cons_succ, i64_w, i32_w]; rfl
           refine take_ (i := 9) (N := some 83) (v := ?_) (a' := ?_) #[true, true, true, true, true, true, true, true, true, true, false, false, false] rfl rfl (take_ofW HT_.out HW_.out (by kernel_rfl)) (fun _ _ _ h => h) (Or.inl ⟨by rfl, ?_⟩) hHeld ?_ ?_; rotate_left; rintro w' ⟨s0, s1, s2, s3, s4, s5, s6, s7⟩; go_simp; with_reducible rfl; rotate_left; simp only [Act.put, List.setIfInBounds_toArray, List.set_cons_zero, List.set_cons_succ, i64_w, i32_w]; rfl
           refine pure_ (i := 10) (N := some 84) (v := ?_) (a' := ?_) #[true, true, true, true, true, true, true, true, true, true, true, false, false] rfl rfl (any_of HT_.out (by kernel_rfl)) (fun _ _ _ h => h) (Or.inl ⟨by rfl, ?_⟩) ?_ ?_; rotate_left; intro w'; go_simp; with_reducible rfl; rotate_left; simp only [Act.put, List.setIfInBounds_toArray, List.set_cons_zero, List.set_cons_succ, i64_w, i32_w]; rfl
           refine pure_ (i := 11) (N := some 85) (v := ?_) (a' := ?_) #[true, true, true, true, true, true, true, true, true, true, true, true, false] rfl rfl (any_of HT_.out (by kernel_rfl)) (fun _ _ _ h => h) (Or.inl ⟨by rfl, ?_⟩) ?_ ?_; rotate_left; intro w'; go_simp; with_reducible rfl; rotate_left; simp only [Act.put, List.setIfInBounds_toArray, List.set_cons_zero, List.set_cons_succ, i64_w, i32_w]; rfl
           refine last_ (i := 12) (N := none) #[true, true, true, true, true, true, true, true, true, true, true, true, true] rfl rfl (one_of HT_.out (by kernel_rfl)) (by decide) (fun K hK => ?_)
           refine skip_ (w1 := ?_) (by rfl) rfl ?_ ?_
           rotate_left
           ·
            go_simp
            rfl
           refine hK.out _ _ ?_
           clear hK K
           refine done_ (done_of HT_.out (by kernel_rfl)) ?_
           try go_wp2
           go_roundg k2
           case measure => have := HK1.out; have := HK2.out; omega
           case rel => exact ⟨(y218), (wrap64 (x42_2 + 1)), (by first | rfl | (simp [*]; done)), H', ⟨by have := HK1.out; have := HK2.out; omega⟩, ⟨by (with_reducible repeat (first | apply Kd.R_alloc | apply Kd.R_drewN | apply Kd.R_drew)); exact HQ72.out⟩, ⟨by (with_reducible repeat (first | refine blk_drewN ?_ _ | refine blk_drew ?_ | refine blk_alloc ?_ _)); refine blk_far ?_ (by have h_ := Kd.R_ne HO_5.out BK200.out (by decide); intro e_; exact h_ (by rw [e_]; rfl)) _; exact bx BK200.out⟩, ⟨by (with_reducible repeat (first | refine blk_drewN ?_ _ | refine blk_drew ?_ | refine blk_alloc ?_ _)); refine blk_far ?_ (by have h_ := Kd.R_ne HO_5.out BK201.out (by decide); intro e_; exact h_ (by rw [e_]; rfl)) _; exact bx BK201.out⟩, ⟨by (with_reducible repeat (first | refine blk_drewN ?_ _ | refine blk_drew ?_ | refine blk_alloc ?_ _)); refine blk_far ?_ (by have h_ := Kd.R_away HO_5.out (fun _ hk => hk); intro e_; exact h_ (by rw [e_]; rfl)) _; exact bx BK202.out⟩, ⟨by (with_reducible repeat (first | refine blk_drewN ?_ _ | refine blk_drew ?_ | refine blk_alloc ?_ _)); refine blk_far ?_ (by have h_ := Kd.R_ne HO_5.out BK999.out (by decide); intro e_; exact h_ (by rw [e_]; rfl)) _; exact bx BK999.out⟩, ⟨by repeat (first | (with_reducible first | exact HB.out | apply below_alloc | apply pw_below_drewN | apply below_drew1 | refine below_set ?_ GB52.out | refine below_set ?_ GE200.out | refine below_set ?_ GE201.out | refine below_set ?_ GE202.out | refine below_set ?_ GE999.out | refine below_set ?_ GE210.out) | exact HB.out)⟩⟩
          ·
           rw [if_neg c48] at H
           have c48b0 : decide ((rd l1_0 x42_2) ≤ 1048576) = false := decide_eq_false c48
           clear c48
           simp only [Option.some.injEq, Prod.mk.injEq] at H
           obtain ⟨rfl, rfl⟩ := H
           have p209 : 0 ≤ (x42_2 : Int) := oda
           have q209 : x42_2 < (l0_1.length : Int) := oda
           obtain ⟨ad209, e209, hx209_0, hx209_1, hx209_2, hx209_3⟩ := at_T98 HR0_1.out x42_2 p209 q209
           cases e209
           (try replace hx209_0 := (HB.out.cell (World.block_lt_of_cell? w _ hx209_0)).trans hx209_0)
           (try replace hx209_1 := (HB.out.cell (World.block_lt_of_cell? w _ hx209_1)).trans hx209_1)
           (try replace hx209_2 := (HB.out.cell (World.block_lt_of_cell? w _ hx209_2)).trans hx209_2)
           (try replace hx209_3 := (HB.out.cell (World.block_lt_of_cell? w _ hx209_3)).trans hx209_3)
           replace p209 := eq_true p209
           replace q209 := eq_true q209
           go_wp2_with (first | ((with_reducible refine gate_dst (N := 7) rfl ?_); refine box_event ?hg (N := 7) ?hd (cs := #[.int .i64 0, .int .i64 0, .int .i64 0, .int .i64 0]) (t := 98) ?hr ?_; (case hd => rfl); (case hg => rfl); (case hr => first | (go_simp; done) | (go_simp; rfl)); intro gb210 hg w73 hbox hb; have n0_ := ak (Kd.R_below (rx HO_5.out) hb); have n1_ := ak (blk_below (bx BK200.out) hb); have n2_ := ak (blk_below (bx BK201.out) hb); have n3_ := ak (blk_below (bx BK202.out) hb); have n4_ := ak (blk_below (g := gbx) (o := .cells #[.int .i64 0] 30 (0, 0)) (bx BK999.out) hb); have n5_ := ak (below_step lb hb); have n6_ := ak (hbox); have n7_ := ak ((by rw [hg]; exact (below_size lb) : w.heap.size ≤ gb210)); have n8_ := ak ((by rw [hg]; exact (below_size lb) : w.heap.size ≤ gb210)); have n9_ := ak ((by rw [hg]; exact Nat.ne_of_lt (blk_lt (g := gb200) (o := .cells #[.int .i64 a0_0, .slice (some ad209) l0_1.length c0_1] 24 (0, 0)) (bx BK200.out)) : gb200 ≠ gb210)); have n10_ := ak ((by rw [hg]; exact Nat.ne_of_gt (blk_lt (g := gb200) (o := .cells #[.int .i64 a0_0, .slice (some ad209) l0_1.length c0_1] 24 (0, 0)) (bx BK200.out)) : gb210 ≠ gb200)); have n11_ := ak ((by rw [hg]; exact Nat.ne_of_lt (blk_lt (g := gb201) (o := .cells #[.slice A1_0 l1_0.length c1_0, .slice A1_1 l1_1.length c1_1] 51 (0, 0)) (bx BK201.out)) : gb201 ≠ gb210)); have n12_ := ak ((by rw [hg]; exact Nat.ne_of_gt (blk_lt (g := gb201) (o := .cells #[.slice A1_0 l1_0.length c1_0, .slice A1_1 l1_1.length c1_1] 51 (0, 0)) (bx BK201.out)) : gb210 ≠ gb201)); have n13_ := ak ((by rw [hg]; exact Nat.ne_of_lt (blk_lt (g := gb202) (o := .cells #[.int .i64 a2] 2 (0, 0)) (bx BK202.out)) : gb202 ≠ gb210)); have n14_ := ak ((by rw [hg]; exact Nat.ne_of_gt (blk_lt (g := gb202) (o := .cells #[.int .i64 a2] 2 (0, 0)) (bx BK202.out)) : gb210 ≠ gb202)); have n15_ := ak ((by rw [hg]; exact Nat.ne_of_lt (blk_lt (g := gbx) (o := .cells #[.int .i64 0] 30 (0, 0)) (bx BK999.out)) : gbx ≠ gb210)); have n16_ := ak ((by rw [hg]; exact Nat.ne_of_gt (blk_lt (g := gbx) (o := .cells #[.int .i64 0] 30 (0, 0)) (bx BK999.out)) : gb210 ≠ gbx)); clear HO_5; clear BK200; clear BK201; clear BK202; clear BK999; clear HB; have HO_5 := n0_; have BK200 := n1_; have BK201 := n2_; have BK202 := n3_; have BK999 := n4_; have HB := n5_; have BK210 := n6_; have GW210 := n7_; have GE210 := n8_; have NB200_210 := n9_; have NB210_200 := n10_; have NB201_210 := n11_; have NB210_201 := n12_; have NB202_210 := n13_; have NB210_202 := n14_; have NB999_210 := n15_; have NB210_999 := n16_; clear n0_ n1_ n2_ n3_ n4_ n5_ n6_ n7_ n8_ n9_ n10_ n11_ n12_ n13_ n14_ n15_ n16_; clear hb hbox hg; have hnb74 := NB210_200.out; have hnc74 := NB200_210.out; have hnb75 := NB210_201.out; have hnc75 := NB201_210.out; have hnb76 := NB210_202.out; have hnc76 := NB202_210.out; have hnb77 := NB210_999.out; have hnc77 := NB999_210.out; have hcz78_0 : w73.cell? ⟨gb210, 0, none⟩ = some (.int .i64 0) := (blk_cell BK210.out 0).trans rfl; have hcz78_1 : w73.cell? ⟨gb210, 1, none⟩ = some (.int .i64 0) := (blk_cell BK210.out 1).trans rfl; have hcz78_2 : w73.cell? ⟨gb210, 2, none⟩ = some (.int .i64 0) := (blk_cell BK210.out 2).trans rfl; have hcz78_3 : w73.cell? ⟨gb210, 3, none⟩ = some (.int .i64 0) := (blk_cell BK210.out 3).trans rfl; have hfz78_0 := blk_frozen BK210.out 0; have hfz78_1 := blk_frozen BK210.out 1; have hfz78_2 := blk_frozen BK210.out 2; have hfz78_3 := blk_frozen BK210.out 3; have hnb79 := NB201_200.out; have hnc79 := NB200_201.out; have hnb80 := NB201_202.out; have hnc80 := NB202_201.out; have hnb81 := NB201_999.out; have hnc81 := NB999_201.out; have hcz82_0 : w73.cell? ⟨gb201, 0, none⟩ = some (.slice A1_0 l1_0.length c1_0) := (blk_cell BK201.out 0).trans rfl; have hcz82_1 : w73.cell? ⟨gb201, 1, none⟩ = some (.slice A1_1 l1_1.length c1_1) := (blk_cell BK201.out 1).trans rfl; have hfz82_0 := blk_frozen BK201.out 0; have hfz82_1 := blk_frozen BK201.out 1; have p211 : 0 ≤ (x42_2 : Int) := oda; have q211 : x42_2 < (l1_0.length : Int) := oda; obtain ⟨ad211, e211, hx211_0⟩ := Kd.at_int HR1_0.out x42_2 p211 q211; cases e211; have hn211_0 : ad211.block ≠ gb210 := Nat.ne_of_lt (Nat.lt_of_lt_of_le (by have := World.block_lt_of_cell? _ _ hx211_0; first | rwa [add_block] at this | exact this) GW210.out); have hn211_1 : ad211.block ≠ gb210 := Nat.ne_of_lt (Nat.lt_of_lt_of_le (by have := World.block_lt_of_cell? _ _ hx211_0; first | rwa [add_block] at this | exact this) GW210.out); have hn211_2 : ad211.block ≠ gb210 := Nat.ne_of_lt (Nat.lt_of_lt_of_le (by have := World.block_lt_of_cell? _ _ hx211_0; first | rwa [add_block] at this | exact this) GW210.out); have hn211_3 : ad211.block ≠ gb210 := Nat.ne_of_lt (Nat.lt_of_lt_of_le (by have := World.block_lt_of_cell? _ _ hx211_0; first | rwa [add_block] at this | exact this) GW210.out); replace hx211_0 := (HB.out.cell (World.block_lt_of_cell? w _ hx211_0)).trans hx211_0; replace hx211_0 := (cell_far (p := ⟨gb210, 0, none⟩) (by first | (rw [add_block]; exact hn211_0) | (show (Addr.add _ _).block ≠ _; rw [add_block]; exact hn211_0) | exact hn211_0) (.int .i64 ((rd_T98 l0_1 x42_2).f0))).trans hx211_0; replace hx211_0 := (cell_far (p := ⟨gb210, 1, none⟩) (by first | (rw [add_block]; exact hn211_1) | (show (Addr.add _ _).block ≠ _; rw [add_block]; exact hn211_1) | exact hn211_1) (.int .i64 ((rd_T98 l0_1 x42_2).f1))).trans hx211_0; replace hx211_0 := (cell_far (p := ⟨gb210, 2, none⟩) (by first | (rw [add_block]; exact hn211_2) | (show (Addr.add _ _).block ≠ _; rw [add_block]; exact hn211_2) | exact hn211_2) (.int .i64 ((rd_T98 l0_1 x42_2).f2))).trans hx211_0; replace hx211_0 := (cell_far (p := ⟨gb210, 3, none⟩) (by first | (rw [add_block]; exact hn211_3) | (show (Addr.add _ _).block ≠ _; rw [add_block]; exact hn211_3) | exact hn211_3) (.int .i64 ((rd_T98 l0_1 x42_2).f3))).trans hx211_0; clear hn211_0; clear hn211_1; clear hn211_2; clear hn211_3; replace p211 := eq_true p211; replace q211 := eq_true q211; have p212 : 0 ≤ (x42_2 : Int) := oda; have q212 : x42_2 < (l1_0.length : Int) := oda; obtain ⟨ad212, e212, hx212_0⟩ := Kd.at_int HR1_0.out x42_2 p212 q212; obtain rfl : ad211 = ad212 := (by injection e212); have hn212_0 : ad211.block ≠ gb210 := Nat.ne_of_lt (Nat.lt_of_lt_of_le (by have := World.block_lt_of_cell? _ _ hx212_0; first | rwa [add_block] at this | exact this) GW210.out); have hn212_1 : ad211.block ≠ gb210 := Nat.ne_of_lt (Nat.lt_of_lt_of_le (by have := World.block_lt_of_cell? _ _ hx212_0; first | rwa [add_block] at this | exact this) GW210.out); have hn212_2 : ad211.block ≠ gb210 := Nat.ne_of_lt (Nat.lt_of_lt_of_le (by have := World.block_lt_of_cell? _ _ hx212_0; first | rwa [add_block] at this | exact this) GW210.out); have hn212_3 : ad211.block ≠ gb210 := Nat.ne_of_lt (Nat.lt_of_lt_of_le (by have := World.block_lt_of_cell? _ _ hx212_0; first | rwa [add_block] at this | exact this) GW210.out); replace hx212_0 := (HB.out.cell (World.block_lt_of_cell? w _ hx212_0)).trans hx212_0; replace hx212_0 := (cell_far (p := ⟨gb210, 0, none⟩) (by first | (rw [add_block]; exact hn212_0) | (show (Addr.add _ _).block ≠ _; rw [add_block]; exact hn212_0) | exact hn212_0) (.int .i64 ((rd_T98 l0_1 x42_2).f0))).trans hx212_0; replace hx212_0 := (cell_far (p := ⟨gb210, 1, none⟩) (by first | (rw [add_block]; exact hn212_1) | (show (Addr.add _ _).block ≠ _; rw [add_block]; exact hn212_1) | exact hn212_1) (.int .i64 ((rd_T98 l0_1 x42_2).f1))).trans hx212_0; replace hx212_0 := (cell_far (p := ⟨gb210, 2, none⟩) (by first | (rw [add_block]; exact hn212_2) | (show (Addr.add _ _).block ≠ _; rw [add_block]; exact hn212_2) | exact hn212_2) (.int .i64 ((rd_T98 l0_1 x42_2).f2))).trans hx212_0; replace hx212_0 := (cell_far (p := ⟨gb210, 3, none⟩) (by first | (rw [add_block]; exact hn212_3) | (show (Addr.add _ _).block ≠ _; rw [add_block]; exact hn212_3) | exact hn212_3) (.int .i64 ((rd_T98 l0_1 x42_2).f3))).trans hx212_0; clear hn212_0; clear hn212_1; clear hn212_2; clear hn212_3; replace p212 := eq_true p212; replace q212 := eq_true q212) | ((with_reducible refine gate_callee (f := 51) rfl ?_); refine panicsL_ (some 61) rfl rfl Try.func51 (by kernel_rfl) rfl #[.bool false, .int .i64 221] rfl (by (try simp only [List.map_toArray, List.map_cons, List.map_nil]); first | done | rfl | (simp only [List.length_drop, List.length_take]; rfl)) ?_; refine (proof_need.bad 221 _).mono ?_; rintro e w' ⟨rfl, rfl⟩; refine ⟨_, rfl, ?_⟩; (repeat (first | refine panic_then ?_ | refine panic_block ?_)); exact panic_body rfl (⟨Gave.no (by first | decide | assumption | (simp_all; done)) rfl, (by (with_reducible repeat (first | refine blk_drewN ?_ _ | refine blk_drew ?_ | refine blk_alloc ?_ _)); refine blk_far ?_ NB202_210.out _; (with_reducible repeat (first | refine blk_drewN ?_ _ | refine blk_drew ?_ | refine blk_alloc ?_ _)); refine blk_far ?_ NB202_210.out _; (with_reducible repeat (first | refine blk_drewN ?_ _ | refine blk_drew ?_ | refine blk_alloc ?_ _)); refine blk_far ?_ NB202_210.out _; (with_reducible repeat (first | refine blk_drewN ?_ _ | refine blk_drew ?_ | refine blk_alloc ?_ _)); refine blk_far ?_ NB202_210.out _; exact bx BK202.out), (by (with_reducible repeat (first | refine blk_drewN ?_ _ | refine blk_drew ?_ | refine blk_alloc ?_ _)); refine blk_far ?_ NB999_210.out _; (with_reducible repeat (first | refine blk_drewN ?_ _ | refine blk_drew ?_ | refine blk_alloc ?_ _)); refine blk_far ?_ NB999_210.out _; (with_reducible repeat (first | refine blk_drewN ?_ _ | refine blk_drew ?_ | refine blk_alloc ?_ _)); refine blk_far ?_ NB999_210.out _; (with_reducible repeat (first | refine blk_drewN ?_ _ | refine blk_drew ?_ | refine blk_alloc ?_ _)); refine blk_far ?_ NB999_210.out _; exact bx BK999.out), lb⟩)))
         ·
          rw [if_neg c47] at H
          have c47b0 : decide (1 ≤ (rd l1_0 x42_2)) = false := decide_eq_false c47
          clear c47
          simp only [Option.some.injEq, Prod.mk.injEq] at H
          obtain ⟨rfl, rfl⟩ := H
          have p209 : 0 ≤ (x42_2 : Int) := oda
          have q209 : x42_2 < (l0_1.length : Int) := oda
          obtain ⟨ad209, e209, hx209_0, hx209_1, hx209_2, hx209_3⟩ := at_T98 HR0_1.out x42_2 p209 q209
          cases e209
          (try replace hx209_0 := (HB.out.cell (World.block_lt_of_cell? w _ hx209_0)).trans hx209_0)
          (try replace hx209_1 := (HB.out.cell (World.block_lt_of_cell? w _ hx209_1)).trans hx209_1)
          (try replace hx209_2 := (HB.out.cell (World.block_lt_of_cell? w _ hx209_2)).trans hx209_2)
          (try replace hx209_3 := (HB.out.cell (World.block_lt_of_cell? w _ hx209_3)).trans hx209_3)
          replace p209 := eq_true p209
          replace q209 := eq_true q209
          go_wp2_with (first | ((with_reducible refine gate_dst (N := 7) rfl ?_); refine box_event ?hg (N := 7) ?hd (cs := #[.int .i64 0, .int .i64 0, .int .i64 0, .int .i64 0]) (t := 98) ?hr ?_; (case hd => rfl); (case hg => rfl); (case hr => first | (go_simp; done) | (go_simp; rfl)); intro gb210 hg w83 hbox hb; have n0_ := ak (Kd.R_below (rx HO_5.out) hb); have n1_ := ak (blk_below (bx BK200.out) hb); have n2_ := ak (blk_below (bx BK201.out) hb); have n3_ := ak (blk_below (bx BK202.out) hb); have n4_ := ak (blk_below (g := gbx) (o := .cells #[.int .i64 0] 30 (0, 0)) (bx BK999.out) hb); have n5_ := ak (below_step lb hb); have n6_ := ak (hbox); have n7_ := ak ((by rw [hg]; exact (below_size lb) : w.heap.size ≤ gb210)); have n8_ := ak ((by rw [hg]; exact (below_size lb) : w.heap.size ≤ gb210)); have n9_ := ak ((by rw [hg]; exact Nat.ne_of_lt (blk_lt (g := gb200) (o := .cells #[.int .i64 a0_0, .slice (some ad209) l0_1.length c0_1] 24 (0, 0)) (bx BK200.out)) : gb200 ≠ gb210)); have n10_ := ak ((by rw [hg]; exact Nat.ne_of_gt (blk_lt (g := gb200) (o := .cells #[.int .i64 a0_0, .slice (some ad209) l0_1.length c0_1] 24 (0, 0)) (bx BK200.out)) : gb210 ≠ gb200)); have n11_ := ak ((by rw [hg]; exact Nat.ne_of_lt (blk_lt (g := gb201) (o := .cells #[.slice A1_0 l1_0.length c1_0, .slice A1_1 l1_1.length c1_1] 51 (0, 0)) (bx BK201.out)) : gb201 ≠ gb210)); have n12_ := ak ((by rw [hg]; exact Nat.ne_of_gt (blk_lt (g := gb201) (o := .cells #[.slice A1_0 l1_0.length c1_0, .slice A1_1 l1_1.length c1_1] 51 (0, 0)) (bx BK201.out)) : gb210 ≠ gb201)); have n13_ := ak ((by rw [hg]; exact Nat.ne_of_lt (blk_lt (g := gb202) (o := .cells #[.int .i64 a2] 2 (0, 0)) (bx BK202.out)) : gb202 ≠ gb210)); have n14_ := ak ((by rw [hg]; exact Nat.ne_of_gt (blk_lt (g := gb202) (o := .cells #[.int .i64 a2] 2 (0, 0)) (bx BK202.out)) : gb210 ≠ gb202)); have n15_ := ak ((by rw [hg]; exact Nat.ne_of_lt (blk_lt (g := gbx) (o := .cells #[.int .i64 0] 30 (0, 0)) (bx BK999.out)) : gbx ≠ gb210)); have n16_ := ak ((by rw [hg]; exact Nat.ne_of_gt (blk_lt (g := gbx) (o := .cells #[.int .i64 0] 30 (0, 0)) (bx BK999.out)) : gb210 ≠ gbx)); clear HO_5; clear BK200; clear BK201; clear BK202; clear BK999; clear HB; have HO_5 := n0_; have BK200 := n1_; have BK201 := n2_; have BK202 := n3_; have BK999 := n4_; have HB := n5_; have BK210 := n6_; have GW210 := n7_; have GE210 := n8_; have NB200_210 := n9_; have NB210_200 := n10_; have NB201_210 := n11_; have NB210_201 := n12_; have NB202_210 := n13_; have NB210_202 := n14_; have NB999_210 := n15_; have NB210_999 := n16_; clear n0_ n1_ n2_ n3_ n4_ n5_ n6_ n7_ n8_ n9_ n10_ n11_ n12_ n13_ n14_ n15_ n16_; clear hb hbox hg; have hnb84 := NB210_200.out; have hnc84 := NB200_210.out; have hnb85 := NB210_201.out; have hnc85 := NB201_210.out; have hnb86 := NB210_202.out; have hnc86 := NB202_210.out; have hnb87 := NB210_999.out; have hnc87 := NB999_210.out; have hcz88_0 : w83.cell? ⟨gb210, 0, none⟩ = some (.int .i64 0) := (blk_cell BK210.out 0).trans rfl; have hcz88_1 : w83.cell? ⟨gb210, 1, none⟩ = some (.int .i64 0) := (blk_cell BK210.out 1).trans rfl; have hcz88_2 : w83.cell? ⟨gb210, 2, none⟩ = some (.int .i64 0) := (blk_cell BK210.out 2).trans rfl; have hcz88_3 : w83.cell? ⟨gb210, 3, none⟩ = some (.int .i64 0) := (blk_cell BK210.out 3).trans rfl; have hfz88_0 := blk_frozen BK210.out 0; have hfz88_1 := blk_frozen BK210.out 1; have hfz88_2 := blk_frozen BK210.out 2; have hfz88_3 := blk_frozen BK210.out 3; have hnb89 := NB201_200.out; have hnc89 := NB200_201.out; have hnb90 := NB201_202.out; have hnc90 := NB202_201.out; have hnb91 := NB201_999.out; have hnc91 := NB999_201.out; have hcz92_0 : w83.cell? ⟨gb201, 0, none⟩ = some (.slice A1_0 l1_0.length c1_0) := (blk_cell BK201.out 0).trans rfl; have hcz92_1 : w83.cell? ⟨gb201, 1, none⟩ = some (.slice A1_1 l1_1.length c1_1) := (blk_cell BK201.out 1).trans rfl; have hfz92_0 := blk_frozen BK201.out 0; have hfz92_1 := blk_frozen BK201.out 1; have p211 : 0 ≤ (x42_2 : Int) := oda; have q211 : x42_2 < (l1_0.length : Int) := oda; obtain ⟨ad211, e211, hx211_0⟩ := Kd.at_int HR1_0.out x42_2 p211 q211; cases e211; have hn211_0 : ad211.block ≠ gb210 := Nat.ne_of_lt (Nat.lt_of_lt_of_le (by have := World.block_lt_of_cell? _ _ hx211_0; first | rwa [add_block] at this | exact this) GW210.out); have hn211_1 : ad211.block ≠ gb210 := Nat.ne_of_lt (Nat.lt_of_lt_of_le (by have := World.block_lt_of_cell? _ _ hx211_0; first | rwa [add_block] at this | exact this) GW210.out); have hn211_2 : ad211.block ≠ gb210 := Nat.ne_of_lt (Nat.lt_of_lt_of_le (by have := World.block_lt_of_cell? _ _ hx211_0; first | rwa [add_block] at this | exact this) GW210.out); have hn211_3 : ad211.block ≠ gb210 := Nat.ne_of_lt (Nat.lt_of_lt_of_le (by have := World.block_lt_of_cell? _ _ hx211_0; first | rwa [add_block] at this | exact this) GW210.out); replace hx211_0 := (HB.out.cell (World.block_lt_of_cell? w _ hx211_0)).trans hx211_0; replace hx211_0 := (cell_far (p := ⟨gb210, 0, none⟩) (by first | (rw [add_block]; exact hn211_0) | (show (Addr.add _ _).block ≠ _; rw [add_block]; exact hn211_0) | exact hn211_0) (.int .i64 ((rd_T98 l0_1 x42_2).f0))).trans hx211_0; replace hx211_0 := (cell_far (p := ⟨gb210, 1, none⟩) (by first | (rw [add_block]; exact hn211_1) | (show (Addr.add _ _).block ≠ _; rw [add_block]; exact hn211_1) | exact hn211_1) (.int .i64 ((rd_T98 l0_1 x42_2).f1))).trans hx211_0; replace hx211_0 := (cell_far (p := ⟨gb210, 2, none⟩) (by first | (rw [add_block]; exact hn211_2) | (show (Addr.add _ _).block ≠ _; rw [add_block]; exact hn211_2) | exact hn211_2) (.int .i64 ((rd_T98 l0_1 x42_2).f2))).trans hx211_0; replace hx211_0 := (cell_far (p := ⟨gb210, 3, none⟩) (by first | (rw [add_block]; exact hn211_3) | (show (Addr.add _ _).block ≠ _; rw [add_block]; exact hn211_3) | exact hn211_3) (.int .i64 ((rd_T98 l0_1 x42_2).f3))).trans hx211_0; clear hn211_0; clear hn211_1; clear hn211_2; clear hn211_3; replace p211 := eq_true p211; replace q211 := eq_true q211) | ((with_reducible refine gate_callee (f := 51) rfl ?_); refine panicsL_ (some 61) rfl rfl Try.func51 (by kernel_rfl) rfl #[.bool false, .int .i64 221] rfl (by (try simp only [List.map_toArray, List.map_cons, List.map_nil]); first | done | rfl | (simp only [List.length_drop, List.length_take]; rfl)) ?_; refine (proof_need.bad 221 _).mono ?_; rintro e w' ⟨rfl, rfl⟩; refine ⟨_, rfl, ?_⟩; (repeat (first | refine panic_then ?_ | refine panic_block ?_)); exact panic_body rfl (⟨Gave.no (by first | decide | assumption | (simp_all; done)) rfl, (by (with_reducible repeat (first | refine blk_drewN ?_ _ | refine blk_drew ?_ | refine blk_alloc ?_ _)); refine blk_far ?_ NB202_210.out _; (with_reducible repeat (first | refine blk_drewN ?_ _ | refine blk_drew ?_ | refine blk_alloc ?_ _)); refine blk_far ?_ NB202_210.out _; (with_reducible repeat (first | refine blk_drewN ?_ _ | refine blk_drew ?_ | refine blk_alloc ?_ _)); refine blk_far ?_ NB202_210.out _; (with_reducible repeat (first | refine blk_drewN ?_ _ | refine blk_drew ?_ | refine blk_alloc ?_ _)); refine blk_far ?_ NB202_210.out _; exact bx BK202.out), (by (with_reducible repeat (first | refine blk_drewN ?_ _ | refine blk_drew ?_ | refine blk_alloc ?_ _)); refine blk_far ?_ NB999_210.out _; (with_reducible repeat (first | refine blk_drewN ?_ _ | refine blk_drew ?_ | refine blk_alloc ?_ _)); refine blk_far ?_ NB999_210.out _; (with_reducible repeat (first | refine blk_drewN ?_ _ | refine blk_drew ?_ | refine blk_alloc ?_ _)); refine blk_far ?_ NB999_210.out _; (with_reducible repeat (first | refine blk_drewN ?_ _ | refine blk_drew ?_ | refine blk_alloc ?_ _)); refine blk_far ?_ NB999_210.out _; exact bx BK999.out), lb⟩)))
        ·
         rw [if_neg c43] at H
         have c43b0 : decide (x42_2 < (l0_1.length : Int)) = false := decide_eq_false c43
         clear c43
         have H' := ak H
         clear H
         obtain ⟨Ao93, co93, eo93⟩ := Kd.R_slice HO_5.out
         subst eo93
         go_wp2
         go_loopg [89] k2 (fun kq v89 w' => ∃ (x89_3 : Int), v89 = .int .i64 x89_3 ∧ Aside0 (proof_Postman_1.l2 kq x5_2 (x5_2.length : Int) x89_3 a0_0 l0_1 l1_0 l1_1 a2 = some (r1, r2)) ∧ Aside0 (kq ≤ k2) ∧ Aside0 (Kd.R (Kd.int .i64) 2 w' w.heap.size (fun k_ => k_ ≠ gb202) (.slice Ao93 x5_2.length co93) x5_2) ∧ Aside0 (w'.heap[gb200]? = some (.cells #[.int .i64 a0_0, (.slice A0_1 l0_1.length c0_1)] 24 (0, 0))) ∧ Aside0 (w'.heap[gb201]? = some (.cells #[(.slice A1_0 l1_0.length c1_0), (.slice A1_1 l1_1.length c1_1)] 51 (0, 0))) ∧ Aside0 (w'.heap[gb202]? = some (.cells #[.int .i64 a2] 2 (0, 0))) ∧ Aside0 (w'.heap[gbx]? = some (.cells #[.int .i64 0] 30 (0, 0))) ∧ Aside0 (Below w.heap.size w w'))
         case atStart => exact ⟨(0), (by first | rfl | (simp [*]; done)), H', ⟨Nat.le_refl _⟩, ⟨rx HO_5.out⟩, ⟨bx BK200.out⟩, ⟨bx BK201.out⟩, ⟨bx BK202.out⟩, ⟨bx BK999.out⟩, ⟨lb⟩⟩
         case round =>
          clear H'
          try clear c1; try clear c2; try clear p2; try clear q2; try clear hx2; try clear c3; try clear c4; try clear c5; try clear p5; try clear q5; try clear hx5; try clear hf5; try clear c6; try clear p6; try clear c7; try clear c8; try clear c9; try clear c12; try clear c12b0; try clear c13; try clear c13b0; try clear c14; try clear c14b0; try clear c15; try clear c15b0; try clear c18; try clear c19; try clear c20; try clear p20; try clear q20; try clear hx20; try clear c21; try clear p21; try clear q21; try clear hx21; try clear c24; try clear c25; try clear c26; try clear c27; try clear c29; try clear c29b0; try clear c29b1; try clear c29b2; try clear c31; try clear c31b0; try clear c31b1; try clear c32; try clear c32b0; try clear c32b1; try clear c33; try clear c34; try clear c35; try clear c37; try clear c38; try clear c43; try clear c43b0; try clear c44; try clear c44b0; try clear c45; try clear c45b0; try clear c46; try clear c46b0; try clear c47; try clear c47b0; try clear c48; try clear c48b0; try clear c50; try clear c50b0; try clear c51; try clear c51b0; try clear p52; try clear q52; try clear hx52; try clear hf52; try clear c53; try clear c53b0; try clear c54; try clear c54b0; try clear p55; try clear q55; try clear hx55; try clear hf55; try clear c57; try clear c58; try clear c59; try clear c60; try clear c62; try clear c63; try clear c64; try clear p64; try clear c74; try clear c75; try clear c76; try clear c77; try clear c79; try clear c80; try clear c81; try clear c84; try clear c85; try clear c86; try clear c87; try clear c89; try clear c90; try clear c91; try clear hcz11_0; try clear hcz11_1; try clear hcz22_0; try clear hcz22_1; try clear hcz22_2; try clear hcz22_3; try clear hcz28_0; try clear hcz28_1; try clear hcz28_2; try clear hcz28_3; try clear hcz36_0; try clear hcz36_1; try clear hcz39_0; try clear hcz39_1; try clear hcz42_0; try clear hcz42_1; try clear hcz61_0; try clear hcz61_1; try clear hcz61_2; try clear hcz61_3; try clear hcz65_0; try clear hcz65_1; try clear hcz78_0; try clear hcz78_1; try clear hcz78_2; try clear hcz78_3; try clear hcz82_0; try clear hcz82_1; try clear hcz88_0; try clear hcz88_1; try clear hcz88_2; try clear hcz88_3; try clear hcz92_0; try clear hcz92_1; try clear hcz9_0; try clear hcz9_1; try clear hfz11_0; try clear hfz11_1; try clear hfz22_0; try clear hfz22_1; try clear hfz22_2; try clear hfz22_3; try clear hfz28_0; try clear hfz28_1; try clear hfz28_2; try clear hfz28_3; try clear hfz36_0; try clear hfz36_1; try clear hfz39_0; try clear hfz39_1; try clear hfz42_0; try clear hfz42_1; try clear hfz61_0; try clear hfz61_1; try clear hfz61_2; try clear hfz61_3; try clear hfz65_0; try clear hfz65_1; try clear hfz78_0; try clear hfz78_1; try clear hfz78_2; try clear hfz78_3; try clear hfz82_0; try clear hfz82_1; try clear hfz88_0; try clear hfz88_1; try clear hfz88_2; try clear hfz88_3; try clear hfz92_0; try clear hfz92_1; try clear hfz9_0; try clear hfz9_1; try clear hx204_0; try clear hx204_1; try clear hx204_2; try clear hx204_3; try clear hx209_0; try clear hx209_1; try clear hx209_2; try clear hx209_3; try clear hx211_0; try clear hx212_0; try clear hx213_0; try clear hx214_0; try clear hx216_0; try clear hx217_0; try clear hx52_0; try clear hx55_0; try clear p2; try clear p20; try clear p204; try clear p209; try clear p211; try clear p212; try clear p213; try clear p214; try clear p216; try clear p217; try clear p52; try clear p55; try clear p6; try clear q2; try clear q20; try clear q204; try clear q209; try clear q211; try clear q212; try clear q213; try clear q214; try clear q216; try clear q217; try clear q52; try clear q55
          obtain ⟨x89_3, rfl, HA, HK3, HO_87, BK200, BK201, BK202, BK999, HB⟩ := hrel
          cases gk with
          | zero => exact absurd HA.out (by simp [proof_Postman_1.l2])
          | succ k3 =>
           have H := HA.out
           clear HA
           simp only [proof_Postman_1.l2] at H
           by_cases c94 : x89_3 < (x5_2.length : Int)
           ·
            rw [if_pos c94] at H
            have c94b0 : decide (x89_3 < (x5_2.length : Int)) = true := decide_eq_true c94
            clear c94
            by_cases c95 : 0 ≤ x89_3
            rotate_left
            ·
             rw [if_neg c95] at H
             exact absurd H (by simp)
            rw [if_pos c95] at H
            have c95b0 : decide (0 ≤ x89_3) = true := decide_eq_true c95
            clear c95
            by_cases c96 : x89_3 < (x5_2.length : Int)
            rotate_left
            ·
             rw [if_neg c96] at H
             exact absurd H (by simp)
            rw [if_pos c96] at H
            have c96b0 : decide (x89_3 < (x5_2.length : Int)) = true := decide_eq_true c96
            clear c96
            by_cases c97 : (rd x5_2 x89_3) = 0
            ·
             rw [if_pos c97] at H
             have c97b0 : ((rd x5_2 x89_3) == 0) = true := beq_iff_eq.mpr c97
             have c97b1 : ((rd x5_2 x89_3) != 0) = false := bne_eq_false_iff_eq.mpr c97
             clear c97
             have A98 := ak (show proof_need.f true 221 = some () from rfl)
             have H' := ak H
             clear H
             have p219 : 0 ≤ (x89_3 : Int) := oda
             have q219 : x89_3 < (x5_2.length : Int) := oda
             obtain ⟨ad219, e219, hx219_0⟩ := Kd.at_int (Kd.R_reads' HO_87.out).2.2 x89_3 p219 q219
             cases e219
             replace p219 := eq_true p219
             replace q219 := eq_true q219
             go_wp2_with (first | ((with_reducible refine gate_callee (f := 51) rfl ?_); refine goesL_ (some 95) rfl rfl Try.func51 (by kernel_rfl) rfl #[.bool true, .int .i64 221] rfl (by (try simp only [List.map_toArray, List.map_cons, List.map_nil]); first | done | rfl | (simp only [List.length_drop, List.length_take]; rfl)) ?_; (with_reducible refine (proof_need.calls true 221  _ A98.out).mono ?_); rintro e w' ⟨rfl, ⟨nd, rfl⟩⟩; refine ⟨_, rfl, ?_⟩))
             go_roundg k3
             case measure => have := HK1.out; have := HK2.out; have := HK3.out; omega
             case rel => exact ⟨(wrap64 (x89_3 + 1)), (by first | rfl | (simp [*]; done)), H', ⟨by have := HK1.out; have := HK2.out; have := HK3.out; omega⟩, ⟨rx HO_87.out⟩, ⟨bx BK200.out⟩, ⟨bx BK201.out⟩, ⟨bx BK202.out⟩, ⟨bx BK999.out⟩, ⟨lb⟩⟩
            ·
             rw [if_neg c97] at H
             have c97b0 : ((rd x5_2 x89_3) == 0) = false := beq_eq_false_iff_ne.mpr c97
             have c97b1 : ((rd x5_2 x89_3) != 0) = true := bne_iff_ne.mpr c97
             simp only [Option.some.injEq, Prod.mk.injEq] at H
             obtain ⟨rfl, rfl⟩ := H
             have p219 : 0 ≤ (x89_3 : Int) := oda
             have q219 : x89_3 < (x5_2.length : Int) := oda
             obtain ⟨ad219, e219, hx219_0⟩ := Kd.at_int (Kd.R_reads' HO_87.out).2.2 x89_3 p219 q219
             cases e219
             replace p219 := eq_true p219
             replace q219 := eq_true q219
             go_wp2_with (first | ((with_reducible refine gate_callee (f := 51) rfl ?_); refine panicsL_ (some 95) rfl rfl Try.func51 (by kernel_rfl) rfl #[.bool false, .int .i64 221] rfl (by (try simp only [List.map_toArray, List.map_cons, List.map_nil]); first | done | rfl | (simp only [List.length_drop, List.length_take]; rfl)) ?_; refine (proof_need.bad 221 _).mono ?_; rintro e w' ⟨rfl, rfl⟩; refine ⟨_, rfl, ?_⟩; (repeat (first | refine panic_then ?_ | refine panic_block ?_)); exact panic_body rfl (⟨Gave.no (by first | decide | assumption | (simp_all; done)) rfl, (bx BK202.out), (bx BK999.out), lb⟩)))
           ·
            rw [if_neg c94] at H
            have c94b0 : decide (x89_3 < (x5_2.length : Int)) = false := decide_eq_false c94
            clear c94
            replace H := Option.bind_eq_some_iff.mp H
            obtain ⟨t220, A990, H⟩ := H
            replace H : (if t220 = true then ((proof_reduced.f k3 a0_0 l0_1 l1_1 1).bind fun bt221 => (if bt221.1 = 0 then (proof_Postman_1.l3 k3 bt221.2 (bt221.2.length : Int) 0 a0_0 l0_1 l1_0 l1_1 a2) else (some (bt221.1, a2)))) else (some (221, a2))) = some (r1, r2) := H
            have A99 := ak A990
            clear A990
            by_cases c100 : t220 = true
            ·
             subst c100
             have H1 : ((proof_reduced.f k3 a0_0 l0_1 l1_1 1).bind fun bt221 => (if bt221.1 = 0 then (proof_Postman_1.l3 k3 bt221.2 (bt221.2.length : Int) 0 a0_0 l0_1 l1_0 l1_1 a2) else (some (bt221.1, a2)))) = some (r1, r2) := by rw [if_pos rfl] at H; exact H
             clear H
             have H := H1
             clear H1
             have A101 := ak (show proof_need.f true 221 = some () from rfl)
             replace H := Option.bind_eq_some_iff.mp H
             obtain ⟨⟨t221, t222⟩, A1020, H⟩ := H
             replace H : (if t221 = 0 then (proof_Postman_1.l3 k3 t222 (t222.length : Int) 0 a0_0 l0_1 l1_0 l1_1 a2) else (some (t221, a2))) = some (r1, r2) := H
             by_cases c103 : t221 = 0
             ·
              subst c103
              have H1 : (proof_Postman_1.l3 k3 t222 (t222.length : Int) 0 a0_0 l0_1 l1_0 l1_1 a2) = some (r1, r2) := by rw [if_pos rfl] at H; exact H
              clear H
              have H := H1
              clear H1
              have A102 := ak A1020
              clear A1020
              have H' := ak H
              clear H
              have hnb104 := NB200_201.out
              have hnc104 := NB201_200.out
              have hnb105 := NB200_202.out
              have hnc105 := NB202_200.out
              have hnb106 := NB200_999.out
              have hnc106 := NB999_200.out
              have hcz107_0 : wr.cell? ⟨gb200, 0, none⟩ = some (.int .i64 a0_0) := (blk_cell BK200.out 0).trans rfl
              have hcz107_1 : wr.cell? ⟨gb200, 1, none⟩ = some (.slice A0_1 l0_1.length c0_1) := (blk_cell BK200.out 1).trans rfl
              have hfz107_0 := blk_frozen BK200.out 0
              have hfz107_1 := blk_frozen BK200.out 1
              go_wp2_with (first | ((with_reducible refine gate_callee (f := 67) rfl ?_); refine goesL_ (some 98) rfl rfl Try.func67 (by kernel_rfl) rfl #[.agg #[.int .i64 a0_0, .slice A0_1 l0_1.length c0_1]] rfl (by (try simp only [List.map_toArray, List.map_cons, List.map_nil]); first | done | rfl | (simp only [List.length_drop, List.length_take]; rfl)) ?_; (with_reducible refine (proof_together.calls k3 a0_0 _ _ l0_1 true _ ?side1 ?side2 A99.out).mono ?_); (case side1 => repeat (first | exact (Kd.C_below HR0_1.out HB.out) | (with_reducible refine Kd.C_alloc ?_ _) | (with_reducible refine Kd.C_drewN ?_ _) | (with_reducible refine Kd.C_drew ?_))); (case side2 => exact HC0_1.out); rintro e w108 ⟨rfl, hb⟩; refine ⟨_, rfl, ?_⟩; have n0_ := ak (Kd.R_below (rx HO_87.out) hb); have n1_ := ak (blk_below (bx BK200.out) hb); have n2_ := ak (blk_below (bx BK201.out) hb); have n3_ := ak (blk_below (bx BK202.out) hb); have n4_ := ak (blk_below (g := gbx) (o := .cells #[.int .i64 0] 30 (0, 0)) (bx BK999.out) hb); have n5_ := ak (below_step lb hb); clear HO_87; clear BK200; clear BK201; clear BK202; clear BK999; clear HB; have HO_87 := n0_; have BK200 := n1_; have BK201 := n2_; have BK202 := n3_; have BK999 := n4_; have HB := n5_; clear n0_ n1_ n2_ n3_ n4_ n5_; (try clear hb); (try clear hb2); (try clear hk); (try clear hi)) | ((with_reducible refine gate_callee (f := 51) rfl ?_); refine goesL_ (some 99) rfl rfl Try.func51 (by kernel_rfl) rfl #[.bool true, .int .i64 221] rfl (by (try simp only [List.map_toArray, List.map_cons, List.map_nil]); first | done | rfl | (simp only [List.length_drop, List.length_take]; rfl)) ?_; (with_reducible refine (proof_need.calls true 221  _ A101.out).mono ?_); rintro e w' ⟨rfl, ⟨nd, rfl⟩⟩; refine ⟨_, rfl, ?_⟩; have hcz109_0 : w108.cell? ⟨gb200, 0, none⟩ = some (.int .i64 a0_0) := (blk_cell BK200.out 0).trans rfl; have hcz109_1 : w108.cell? ⟨gb200, 1, none⟩ = some (.slice A0_1 l0_1.length c0_1) := (blk_cell BK200.out 1).trans rfl; have hfz109_0 := blk_frozen BK200.out 0; have hfz109_1 := blk_frozen BK200.out 1; have hnb110 := NB201_202.out; have hnc110 := NB202_201.out; have hnb111 := NB201_999.out; have hnc111 := NB999_201.out; have hcz112_0 : w108.cell? ⟨gb201, 0, none⟩ = some (.slice A1_0 l1_0.length c1_0) := (blk_cell BK201.out 0).trans rfl; have hcz112_1 : w108.cell? ⟨gb201, 1, none⟩ = some (.slice A1_1 l1_1.length c1_1) := (blk_cell BK201.out 1).trans rfl; have hfz112_0 := blk_frozen BK201.out 0; have hfz112_1 := blk_frozen BK201.out 1) | ((with_reducible refine gate_callee (f := 62) rfl ?_); refine goesL_ (some 103) rfl rfl Try.func62 (by kernel_rfl) rfl #[.agg #[.int .i64 a0_0, .slice A0_1 l0_1.length c0_1], .slice A1_1 l1_1.length c1_1, .int .i64 1] rfl (by (try simp only [List.map_toArray, List.map_cons, List.map_nil]); first | done | rfl | (simp only [List.length_drop, List.length_take]; rfl)) ?_; (with_reducible refine (proof_reduced.ok k3 a0_0 _ _ l0_1 _ _ l1_1 1 t222 _ ?side1 ?side2 ?side3 ?side4 A102.out).mono ?_); (case side1 => repeat (first | exact (Kd.C_below HR0_1.out lb) | (with_reducible refine Kd.C_alloc ?_ _) | (with_reducible refine Kd.C_drewN ?_ _) | (with_reducible refine Kd.C_drew ?_))); (case side2 => exact HC0_1.out); (case side3 => repeat (first | exact (Kd.C_below HR1_1.out lb) | (with_reducible refine Kd.C_alloc ?_ _) | (with_reducible refine Kd.C_drewN ?_ _) | (with_reducible refine Kd.C_drew ?_))); (case side4 => exact HC1_1.out); rintro e w113 ⟨v223, rfl, ho0, hb⟩; refine ⟨_, rfl, ?_⟩; have n0_ := ak (Kd.R_elder' (rx HO_87.out) (Kd.R_base ho0) hb); have n1_ := ak (Kd.R_lower (Kd.R_newB (Kd.R_new' ho0 (Kd.R_lt (rx HO_87.out))) (g := gb202) (o := .cells #[.int .i64 a2] 2 (0, 0)) (bx BK202.out)) (below_size lb)); have n2_ := ak (blk_below (bx BK200.out) hb); have n3_ := ak (blk_below (bx BK201.out) hb); have n4_ := ak (blk_below (bx BK202.out) hb); have n5_ := ak (blk_below (g := gbx) (o := .cells #[.int .i64 0] 30 (0, 0)) (bx BK999.out) hb); have n6_ := ak (below_step lb hb); clear HO_87; clear BK200; clear BK201; clear BK202; clear BK999; clear HB; have HO_87 := n0_; have HO224 := n1_; have BK200 := n2_; have BK201 := n3_; have BK202 := n4_; have BK999 := n5_; have HB := n6_; clear n0_ n1_ n2_ n3_ n4_ n5_ n6_; (try clear hb); (try clear hb2); (try clear hk); (try clear hi); (try clear ho0); obtain ⟨Ao114, co114, eo114⟩ := Kd.R_slice HO224.out; subst eo114))
              go_loopg [105] k3 (fun kq v105 w' => ∃ (x105_4 : Int), v105 = .int .i64 x105_4 ∧ Aside0 (proof_Postman_1.l3 kq t222 (t222.length : Int) x105_4 a0_0 l0_1 l1_0 l1_1 a2 = some (r1, r2)) ∧ Aside0 (kq ≤ k3) ∧ Aside0 (Kd.R (Kd.int .i64) 2 w' w.heap.size (fun k_ => k_ ≠ gb202) (.slice Ao114 t222.length co114) t222) ∧ Aside0 (w'.heap[gb200]? = some (.cells #[.int .i64 a0_0, (.slice A0_1 l0_1.length c0_1)] 24 (0, 0))) ∧ Aside0 (w'.heap[gb201]? = some (.cells #[(.slice A1_0 l1_0.length c1_0), (.slice A1_1 l1_1.length c1_1)] 51 (0, 0))) ∧ Aside0 (w'.heap[gb202]? = some (.cells #[.int .i64 a2] 2 (0, 0))) ∧ Aside0 (w'.heap[gbx]? = some (.cells #[.int .i64 0] 30 (0, 0))) ∧ Aside0 (Below w.heap.size w w'))
              case atStart => exact ⟨(0), (by first | rfl | (simp [*]; done)), H', ⟨Nat.le_refl _⟩, ⟨by exact rx (Kd.R_mono HO224.out (fun _ hk => hk.2))⟩, ⟨bx BK200.out⟩, ⟨bx BK201.out⟩, ⟨bx BK202.out⟩, ⟨bx BK999.out⟩, ⟨lb⟩⟩
              case round =>
               clear H'
               try clear c1; try clear c2; try clear p2; try clear q2; try clear hx2; try clear c3; try clear c4; try clear c5; try clear p5; try clear q5; try clear hx5; try clear hf5; try clear c6; try clear p6; try clear c7; try clear c8; try clear c9; try clear c10; try clear c11; try clear c12; try clear c12b0; try clear c13; try clear c13b0; try clear c14; try clear c14b0; try clear c15; try clear c15b0; try clear c18; try clear c19; try clear c20; try clear p20; try clear q20; try clear hx20; try clear c21; try clear p21; try clear q21; try clear hx21; try clear c24; try clear c25; try clear c26; try clear c27; try clear c29; try clear c29b0; try clear c29b1; try clear c29b2; try clear c31; try clear c31b0; try clear c31b1; try clear c32; try clear c32b0; try clear c32b1; try clear c33; try clear c34; try clear c35; try clear c37; try clear c38; try clear c43; try clear c43b0; try clear c44; try clear c44b0; try clear c45; try clear c45b0; try clear c46; try clear c46b0; try clear c47; try clear c47b0; try clear c48; try clear c48b0; try clear c50; try clear c50b0; try clear c51; try clear c51b0; try clear p52; try clear q52; try clear hx52; try clear hf52; try clear c53; try clear c53b0; try clear c54; try clear c54b0; try clear p55; try clear q55; try clear hx55; try clear hf55; try clear c57; try clear c58; try clear c59; try clear c60; try clear c62; try clear c63; try clear c64; try clear p64; try clear c67; try clear c74; try clear c75; try clear c76; try clear c77; try clear c79; try clear c80; try clear c81; try clear c84; try clear c85; try clear c86; try clear c87; try clear c89; try clear c90; try clear c91; try clear c94; try clear c94b0; try clear c95; try clear c95b0; try clear c96; try clear c96b0; try clear c97; try clear c97b0; try clear c97b1; try clear c100; try clear c103; try clear c104; try clear c105; try clear c106; try clear c110; try clear c111; try clear hcz107_0; try clear hcz107_1; try clear hcz109_0; try clear hcz109_1; try clear hcz112_0; try clear hcz112_1; try clear hcz11_0; try clear hcz11_1; try clear hcz22_0; try clear hcz22_1; try clear hcz22_2; try clear hcz22_3; try clear hcz28_0; try clear hcz28_1; try clear hcz28_2; try clear hcz28_3; try clear hcz36_0; try clear hcz36_1; try clear hcz39_0; try clear hcz39_1; try clear hcz42_0; try clear hcz42_1; try clear hcz61_0; try clear hcz61_1; try clear hcz61_2; try clear hcz61_3; try clear hcz65_0; try clear hcz65_1; try clear hcz78_0; try clear hcz78_1; try clear hcz78_2; try clear hcz78_3; try clear hcz82_0; try clear hcz82_1; try clear hcz88_0; try clear hcz88_1; try clear hcz88_2; try clear hcz88_3; try clear hcz92_0; try clear hcz92_1; try clear hcz9_0; try clear hcz9_1; try clear hfz107_0; try clear hfz107_1; try clear hfz109_0; try clear hfz109_1; try clear hfz112_0; try clear hfz112_1; try clear hfz11_0; try clear hfz11_1; try clear hfz22_0; try clear hfz22_1; try clear hfz22_2; try clear hfz22_3; try clear hfz28_0; try clear hfz28_1; try clear hfz28_2; try clear hfz28_3; try clear hfz36_0; try clear hfz36_1; try clear hfz39_0; try clear hfz39_1; try clear hfz42_0; try clear hfz42_1; try clear hfz61_0; try clear hfz61_1; try clear hfz61_2; try clear hfz61_3; try clear hfz65_0; try clear hfz65_1; try clear hfz78_0; try clear hfz78_1; try clear hfz78_2; try clear hfz78_3; try clear hfz82_0; try clear hfz82_1; try clear hfz88_0; try clear hfz88_1; try clear hfz88_2; try clear hfz88_3; try clear hfz92_0; try clear hfz92_1; try clear hfz9_0; try clear hfz9_1; try clear hx204_0; try clear hx204_1; try clear hx204_2; try clear hx204_3; try clear hx209_0; try clear hx209_1; try clear hx209_2; try clear hx209_3; try clear hx211_0; try clear hx212_0; try clear hx213_0; try clear hx214_0; try clear hx216_0; try clear hx217_0; try clear hx219_0; try clear hx52_0; try clear hx55_0; try clear p2; try clear p20; try clear p204; try clear p209; try clear p21; try clear p211; try clear p212; try clear p213; try clear p214; try clear p216
               try clear p217; try clear p219; try clear p5; try clear p52; try clear p55; try clear p6; try clear p64; try clear q2; try clear q20; try clear q204; try clear q209; try clear q21; try clear q211; try clear q212; try clear q213; try clear q214; try clear q216; try clear q217; try clear q219; try clear q5; try clear q52; try clear q55
               obtain ⟨x105_4, rfl, HA, HK4, HO_103, BK200, BK201, BK202, BK999, HB⟩ := hrel
               cases gk with
               | zero => exact absurd HA.out (by simp [proof_Postman_1.l3])
               | succ k4 =>
                have H := HA.out
                clear HA
                simp only [proof_Postman_1.l3] at H
                by_cases c115 : x105_4 < (t222.length : Int)
                ·
                 rw [if_pos c115] at H
                 have c115b0 : decide (x105_4 < (t222.length : Int)) = true := decide_eq_true c115
                 clear c115
                 by_cases c116 : 0 ≤ x105_4
                 rotate_left
                 ·
                  rw [if_neg c116] at H
                  exact absurd H (by simp)
                 rw [if_pos c116] at H
                 have c116b0 : decide (0 ≤ x105_4) = true := decide_eq_true c116
                 clear c116
                 by_cases c117 : x105_4 < (t222.length : Int)
                 rotate_left
                 ·
                  rw [if_neg c117] at H
                  exact absurd H (by simp)
                 rw [if_pos c117] at H
                 have c117b0 : decide (x105_4 < (t222.length : Int)) = true := decide_eq_true c117
                 clear c117
                 by_cases c118 : (rd t222 x105_4) = 0
                 ·
                  rw [if_pos c118] at H
                  have c118b0 : ((rd t222 x105_4) == 0) = true := beq_iff_eq.mpr c118
                  have c118b1 : ((rd t222 x105_4) != 0) = false := bne_eq_false_iff_eq.mpr c118
                  clear c118
                  have A119 := ak (show proof_need.f true 221 = some () from rfl)
                  have H' := ak H
                  clear H
                  have p225 : 0 ≤ (x105_4 : Int) := oda
                  have q225 : x105_4 < (t222.length : Int) := oda
                  obtain ⟨ad225, e225, hx225_0⟩ := Kd.at_int (Kd.R_reads' HO_103.out).2.2 x105_4 p225 q225
                  cases e225
                  replace p225 := eq_true p225
                  replace q225 := eq_true q225
                  go_wp2_with (first | ((with_reducible refine gate_callee (f := 51) rfl ?_); refine goesL_ (some 124) rfl rfl Try.func51 (by kernel_rfl) rfl #[.bool true, .int .i64 221] rfl (by (try simp only [List.map_toArray, List.map_cons, List.map_nil]); first | done | rfl | (simp only [List.length_drop, List.length_take]; rfl)) ?_; (with_reducible refine (proof_need.calls true 221  _ A119.out).mono ?_); rintro e w' ⟨rfl, ⟨nd, rfl⟩⟩; refine ⟨_, rfl, ?_⟩))
                  go_roundg k4
                  case measure => have := HK1.out; have := HK2.out; have := HK3.out; have := HK4.out; omega
                  case rel => exact ⟨(wrap64 (x105_4 + 1)), (by first | rfl | (simp [*]; done)), H', ⟨by have := HK1.out; have := HK2.out; have := HK3.out; have := HK4.out; omega⟩, ⟨rx HO_103.out⟩, ⟨bx BK200.out⟩, ⟨bx BK201.out⟩, ⟨bx BK202.out⟩, ⟨bx BK999.out⟩, ⟨lb⟩⟩
                 ·
                  rw [if_neg c118] at H
                  have c118b0 : ((rd t222 x105_4) == 0) = false := beq_eq_false_iff_ne.mpr c118
                  have c118b1 : ((rd t222 x105_4) != 0) = true := bne_iff_ne.mpr c118
                  by_cases c120 : (rd t222 x105_4) > 0
                  ·
                   rw [if_pos c120] at H
                   have c120b0 : decide (0 < (rd t222 x105_4)) = true := decide_eq_true c120
                   clear c120
                   by_cases c121 : x105_4 < (l1_0.length : Int)
                   rotate_left
                   ·
                    rw [if_neg c121] at H
                    exact absurd H (by simp)
                   rw [if_pos c121] at H
                   have c121b0 : decide (x105_4 < (l1_0.length : Int)) = true := decide_eq_true c121
                   clear c121
                   by_cases c122 : (rd l1_0 x105_4) = 1
                   ·
                    rw [if_pos c122] at H
                    have c122b0 : ((rd l1_0 x105_4) == 1) = true := beq_iff_eq.mpr c122
                    have c122b1 : ((rd l1_0 x105_4) != 1) = false := bne_eq_false_iff_eq.mpr c122
                    clear c122
                    have A123 := ak (show proof_need.f true 221 = some () from rfl)
                    have H' := ak H
                    clear H
                    have p225 : 0 ≤ (x105_4 : Int) := oda
                    have q225 : x105_4 < (t222.length : Int) := oda
                    obtain ⟨ad225, e225, hx225_0⟩ := Kd.at_int (Kd.R_reads' HO_103.out).2.2 x105_4 p225 q225
                    cases e225
                    replace p225 := eq_true p225
                    replace q225 := eq_true q225
                    have hnb124 := NB201_200.out
                    have hnc124 := NB200_201.out
                    have hnb125 := NB201_202.out
                    have hnc125 := NB202_201.out
                    have hnb126 := NB201_999.out
                    have hnc126 := NB999_201.out
                    have hcz127_0 : wr.cell? ⟨gb201, 0, none⟩ = some (.slice A1_0 l1_0.length c1_0) := (blk_cell BK201.out 0).trans rfl
                    have hcz127_1 : wr.cell? ⟨gb201, 1, none⟩ = some (.slice A1_1 l1_1.length c1_1) := (blk_cell BK201.out 1).trans rfl
                    have hfz127_0 := blk_frozen BK201.out 0
                    have hfz127_1 := blk_frozen BK201.out 1
                    have p226 : 0 ≤ (x105_4 : Int) := oda
                    have q226 : x105_4 < (l1_0.length : Int) := oda
                    obtain ⟨ad226, e226, hx226_0⟩ := Kd.at_int HR1_0.out x105_4 p226 q226
                    cases e226
                    (try replace hx226_0 := (HB.out.cell (World.block_lt_of_cell? w _ hx226_0)).trans hx226_0)
                    replace p226 := eq_true p226
                    replace q226 := eq_true q226
                    go_wp2_with (first | ((with_reducible refine gate_callee (f := 51) rfl ?_); refine goesL_ (some 124) rfl rfl Try.func51 (by kernel_rfl) rfl #[.bool true, .int .i64 221] rfl (by (try simp only [List.map_toArray, List.map_cons, List.map_nil]); first | done | rfl | (simp only [List.length_drop, List.length_take]; rfl)) ?_; (with_reducible refine (proof_need.calls true 221  _ A123.out).mono ?_); rintro e w' ⟨rfl, ⟨nd, rfl⟩⟩; refine ⟨_, rfl, ?_⟩))
                    go_roundg k4
                    case measure => have := HK1.out; have := HK2.out; have := HK3.out; have := HK4.out; omega
                    case rel => exact ⟨(wrap64 (x105_4 + 1)), (by first | rfl | (simp [*]; done)), H', ⟨by have := HK1.out; have := HK2.out; have := HK3.out; have := HK4.out; omega⟩, ⟨rx HO_103.out⟩, ⟨bx BK200.out⟩, ⟨bx BK201.out⟩, ⟨bx BK202.out⟩, ⟨bx BK999.out⟩, ⟨lb⟩⟩
                   ·
                    rw [if_neg c122] at H
                    have c122b0 : ((rd l1_0 x105_4) == 1) = false := beq_eq_false_iff_ne.mpr c122
                    have c122b1 : ((rd l1_0 x105_4) != 1) = true := bne_iff_ne.mpr c122
                    simp only [Option.some.injEq, Prod.mk.injEq] at H
                    obtain ⟨rfl, rfl⟩ := H
                    have p225 : 0 ≤ (x105_4 : Int) := oda
                    have q225 : x105_4 < (t222.length : Int) := oda
                    obtain ⟨ad225, e225, hx225_0⟩ := Kd.at_int (Kd.R_reads' HO_103.out).2.2 x105_4 p225 q225
                    cases e225
                    replace p225 := eq_true p225
                    replace q225 := eq_true q225
                    have hnb128 := NB201_200.out
                    have hnc128 := NB200_201.out
                    have hnb129 := NB201_202.out
                    have hnc129 := NB202_201.out
                    have hnb130 := NB201_999.out
                    have hnc130 := NB999_201.out
                    have hcz131_0 : wr.cell? ⟨gb201, 0, none⟩ = some (.slice A1_0 l1_0.length c1_0) := (blk_cell BK201.out 0).trans rfl
                    have hcz131_1 : wr.cell? ⟨gb201, 1, none⟩ = some (.slice A1_1 l1_1.length c1_1) := (blk_cell BK201.out 1).trans rfl
                    have hfz131_0 := blk_frozen BK201.out 0
                    have hfz131_1 := blk_frozen BK201.out 1
                    have p226 : 0 ≤ (x105_4 : Int) := oda
                    have q226 : x105_4 < (l1_0.length : Int) := oda
                    obtain ⟨ad226, e226, hx226_0⟩ := Kd.at_int HR1_0.out x105_4 p226 q226
                    cases e226
                    (try replace hx226_0 := (HB.out.cell (World.block_lt_of_cell? w _ hx226_0)).trans hx226_0)
                    replace p226 := eq_true p226
                    replace q226 := eq_true q226
                    go_wp2_with (first | ((with_reducible refine gate_callee (f := 51) rfl ?_); refine panicsL_ (some 124) rfl rfl Try.func51 (by kernel_rfl) rfl #[.bool false, .int .i64 221] rfl (by (try simp only [List.map_toArray, List.map_cons, List.map_nil]); first | done | rfl | (simp only [List.length_drop, List.length_take]; rfl)) ?_; refine (proof_need.bad 221 _).mono ?_; rintro e w' ⟨rfl, rfl⟩; refine ⟨_, rfl, ?_⟩; (repeat (first | refine panic_then ?_ | refine panic_block ?_)); exact panic_body rfl (⟨Gave.no (by first | decide | assumption | (simp_all; done)) rfl, (bx BK202.out), (bx BK999.out), lb⟩)))
                  ·
                   rw [if_neg c120] at H
                   have c120b0 : decide (0 < (rd t222 x105_4)) = false := decide_eq_false c120
                   clear c120
                   simp only [Option.some.injEq, Prod.mk.injEq] at H
                   obtain ⟨rfl, rfl⟩ := H
                   have p225 : 0 ≤ (x105_4 : Int) := oda
                   have q225 : x105_4 < (t222.length : Int) := oda
                   obtain ⟨ad225, e225, hx225_0⟩ := Kd.at_int (Kd.R_reads' HO_103.out).2.2 x105_4 p225 q225
                   cases e225
                   replace p225 := eq_true p225
                   replace q225 := eq_true q225
                   go_wp2_with (first | ((with_reducible refine gate_callee (f := 51) rfl ?_); refine panicsL_ (some 124) rfl rfl Try.func51 (by kernel_rfl) rfl #[.bool false, .int .i64 221] rfl (by (try simp only [List.map_toArray, List.map_cons, List.map_nil]); first | done | rfl | (simp only [List.length_drop, List.length_take]; rfl)) ?_; refine (proof_need.bad 221 _).mono ?_; rintro e w' ⟨rfl, rfl⟩; refine ⟨_, rfl, ?_⟩; (repeat (first | refine panic_then ?_ | refine panic_block ?_)); exact panic_body rfl (⟨Gave.no (by first | decide | assumption | (simp_all; done)) rfl, (bx BK202.out), (bx BK999.out), lb⟩)))
                ·
                 rw [if_neg c115] at H
                 have c115b0 : decide (x105_4 < (t222.length : Int)) = false := decide_eq_false c115
                 clear c115
                 have H' := ak H
                 clear H
                 have hnb132 := NB200_201.out
                 have hnc132 := NB201_200.out
                 have hnb133 := NB200_202.out
                 have hnc133 := NB202_200.out
                 have hnb134 := NB200_999.out
                 have hnc134 := NB999_200.out
                 have hcz135_0 : wr.cell? ⟨gb200, 0, none⟩ = some (.int .i64 a0_0) := (blk_cell BK200.out 0).trans rfl
                 have hcz135_1 : wr.cell? ⟨gb200, 1, none⟩ = some (.slice A0_1 l0_1.length c0_1) := (blk_cell BK200.out 1).trans rfl
                 have hfz135_0 := blk_frozen BK200.out 0
                 have hfz135_1 := blk_frozen BK200.out 1
                 go_wp2
                 go_loopg [129] k4 (fun kq v129 w' => ∃ (x129_5 : Int) (x203000_5 : Int), v129 = .int .i64 x129_5 ∧ Aside0 (proof_Postman_1.l4 kq l0_1 (l0_1.length : Int) x129_5 l1_0 l1_1 x203000_5 = some (r1, r2)) ∧ Aside0 (kq ≤ k4) ∧ Aside0 (w'.heap[gb200]? = some (.cells #[.int .i64 a0_0, (.slice A0_1 l0_1.length c0_1)] 24 (0, 0))) ∧ Aside0 (w'.heap[gb201]? = some (.cells #[(.slice A1_0 l1_0.length c1_0), (.slice A1_1 l1_1.length c1_1)] 51 (0, 0))) ∧ Aside0 (w'.heap[gb202]? = some (.cells #[.int .i64 x203000_5] 2 (0, 0))) ∧ Aside0 (w'.heap[gbx]? = some (.cells #[.int .i64 0] 30 (0, 0))) ∧ Aside0 (Below w.heap.size w w'))
                 case atStart => exact ⟨(0), (a2), (by first | rfl | (simp [*]; done)), H', ⟨Nat.le_refl _⟩, ⟨bx BK200.out⟩, ⟨bx BK201.out⟩, ⟨bx BK202.out⟩, ⟨bx BK999.out⟩, ⟨lb⟩⟩
                 case round =>
                  clear H'
                  try clear c1; try clear c2; try clear p2; try clear q2; try clear hx2; try clear c3; try clear c4; try clear c5; try clear p5; try clear q5; try clear hx5; try clear hf5; try clear c6; try clear p6; try clear c7; try clear c8; try clear c9; try clear c10; try clear c11; try clear c12; try clear c12b0; try clear c13; try clear c13b0; try clear c14; try clear c14b0; try clear c15; try clear c15b0; try clear c18; try clear c19; try clear c20; try clear p20; try clear q20; try clear hx20; try clear c21; try clear p21; try clear q21; try clear hx21; try clear p22; try clear q22; try clear hx22; try clear c24; try clear c25; try clear c26; try clear c27; try clear c29; try clear c29b0; try clear c29b1; try clear c29b2; try clear c31; try clear c31b0; try clear c31b1; try clear c32; try clear c32b0; try clear c32b1; try clear c33; try clear c34; try clear c35; try clear c37; try clear c38; try clear c43; try clear c43b0; try clear c44; try clear c44b0; try clear c45; try clear c45b0; try clear c46; try clear c46b0; try clear c47; try clear c47b0; try clear c48; try clear c48b0; try clear c50; try clear c50b0; try clear c51; try clear c51b0; try clear p52; try clear q52; try clear hx52; try clear hf52; try clear c53; try clear c53b0; try clear c54; try clear c54b0; try clear p55; try clear q55; try clear hx55; try clear hf55; try clear c57; try clear c58; try clear c59; try clear c60; try clear c62; try clear c63; try clear c64; try clear p64; try clear c67; try clear c74; try clear c75; try clear c76; try clear c77; try clear c79; try clear c80; try clear c81; try clear c84; try clear c85; try clear c86; try clear c87; try clear c89; try clear c90; try clear c91; try clear c94; try clear c94b0; try clear c95; try clear c95b0; try clear c96; try clear c96b0; try clear c97; try clear c97b0; try clear c97b1; try clear c100; try clear c103; try clear c104; try clear c105; try clear c106; try clear c110; try clear c111; try clear c115; try clear c115b0; try clear c116; try clear c116b0; try clear c117; try clear c117b0; try clear c118; try clear c118b0; try clear c118b1; try clear c120; try clear c120b0; try clear c121; try clear c121b0; try clear c122; try clear c122b0; try clear c122b1; try clear c124; try clear c125; try clear c126; try clear c128; try clear c129; try clear c130; try clear c132; try clear c133; try clear c134; try clear hcz107_0; try clear hcz107_1; try clear hcz109_0; try clear hcz109_1; try clear hcz112_0; try clear hcz112_1; try clear hcz11_0; try clear hcz11_1; try clear hcz127_0; try clear hcz127_1; try clear hcz131_0; try clear hcz131_1; try clear hcz135_0; try clear hcz135_1; try clear hcz22_0; try clear hcz22_1; try clear hcz22_2; try clear hcz22_3; try clear hcz28_0; try clear hcz28_1; try clear hcz28_2; try clear hcz28_3; try clear hcz36_0; try clear hcz36_1; try clear hcz39_0; try clear hcz39_1; try clear hcz42_0; try clear hcz42_1; try clear hcz61_0; try clear hcz61_1; try clear hcz61_2; try clear hcz61_3; try clear hcz65_0; try clear hcz65_1; try clear hcz78_0; try clear hcz78_1; try clear hcz78_2; try clear hcz78_3; try clear hcz82_0; try clear hcz82_1; try clear hcz88_0; try clear hcz88_1; try clear hcz88_2; try clear hcz88_3; try clear hcz92_0; try clear hcz92_1; try clear hcz9_0; try clear hcz9_1; try clear hfz107_0; try clear hfz107_1; try clear hfz109_0; try clear hfz109_1; try clear hfz112_0; try clear hfz112_1; try clear hfz11_0; try clear hfz11_1; try clear hfz127_0; try clear hfz127_1; try clear hfz131_0; try clear hfz131_1; try clear hfz135_0; try clear hfz135_1; try clear hfz22_0; try clear hfz22_1; try clear hfz22_2; try clear hfz22_3; try clear hfz28_0; try clear hfz28_1; try clear hfz28_2; try clear hfz28_3; try clear hfz36_0; try clear hfz36_1; try clear hfz39_0; try clear hfz39_1; try clear hfz42_0; try clear hfz42_1; try clear hfz61_0; try clear hfz61_1; try clear hfz61_2; try clear hfz61_3; try clear hfz65_0; try clear hfz65_1; try clear hfz78_0; try clear hfz78_1
                  try clear hfz78_2; try clear hfz78_3; try clear hfz82_0; try clear hfz82_1; try clear hfz88_0; try clear hfz88_1; try clear hfz88_2; try clear hfz88_3; try clear hfz92_0; try clear hfz92_1; try clear hfz9_0; try clear hfz9_1; try clear hx204_0; try clear hx204_1; try clear hx204_2; try clear hx204_3; try clear hx209_0; try clear hx209_1; try clear hx209_2; try clear hx209_3; try clear hx211_0; try clear hx212_0; try clear hx213_0; try clear hx214_0; try clear hx216_0; try clear hx217_0; try clear hx219_0; try clear hx225_0; try clear hx226_0; try clear hx52_0; try clear hx55_0; try clear p2; try clear p20; try clear p204; try clear p209; try clear p21; try clear p211; try clear p212; try clear p213; try clear p214; try clear p216; try clear p217; try clear p219; try clear p225; try clear p226; try clear p5; try clear p52; try clear p55; try clear p6; try clear p64; try clear q2; try clear q20; try clear q204; try clear q209; try clear q21; try clear q211; try clear q212; try clear q213; try clear q214; try clear q216; try clear q217; try clear q219; try clear q225; try clear q226; try clear q5; try clear q52; try clear q55
                  obtain ⟨x129_5, x203000_5, rfl, HA, HK5, BK200, BK201, BK202, BK999, HB⟩ := hrel
                  cases gk with
                  | zero => exact absurd HA.out (by simp [proof_Postman_1.l4])
                  | succ k5 =>
                   have H := HA.out
                   clear HA
                   simp only [proof_Postman_1.l4] at H
                   by_cases c136 : x129_5 < (l0_1.length : Int)
                   ·
                    rw [if_pos c136] at H
                    have c136b0 : decide (x129_5 < (l0_1.length : Int)) = true := decide_eq_true c136
                    clear c136
                    by_cases c137 : 0 ≤ x129_5
                    rotate_left
                    ·
                     rw [if_neg c137] at H
                     exact absurd H (by simp)
                    rw [if_pos c137] at H
                    have c137b0 : decide (0 ≤ x129_5) = true := decide_eq_true c137
                    clear c137
                    by_cases c138 : x129_5 < (l0_1.length : Int)
                    rotate_left
                    ·
                     rw [if_neg c138] at H
                     exact absurd H (by simp)
                    rw [if_pos c138] at H
                    have c138b0 : decide (x129_5 < (l0_1.length : Int)) = true := decide_eq_true c138
                    clear c138
                    by_cases c139 : x129_5 < (l1_0.length : Int)
                    rotate_left
                    ·
                     rw [if_neg c139] at H
                     exact absurd H (by simp)
                    rw [if_pos c139] at H
                    have c139b0 : decide (x129_5 < (l1_0.length : Int)) = true := decide_eq_true c139
                    clear c139
                    have H' := ak H
                    clear H
                    have p227 : 0 ≤ (x129_5 : Int) := oda
                    have q227 : x129_5 < (l0_1.length : Int) := oda
                    obtain ⟨ad227, e227, hx227_0, hx227_1, hx227_2, hx227_3⟩ := at_T98 HR0_1.out x129_5 p227 q227
                    cases e227
                    (try replace hx227_0 := (HB.out.cell (World.block_lt_of_cell? w _ hx227_0)).trans hx227_0)
                    (try replace hx227_1 := (HB.out.cell (World.block_lt_of_cell? w _ hx227_1)).trans hx227_1)
                    (try replace hx227_2 := (HB.out.cell (World.block_lt_of_cell? w _ hx227_2)).trans hx227_2)
                    (try replace hx227_3 := (HB.out.cell (World.block_lt_of_cell? w _ hx227_3)).trans hx227_3)
                    replace p227 := eq_true p227
                    replace q227 := eq_true q227
                    try go_wp2_with (first | ((with_reducible refine gate_dst (N := 13) rfl ?_); refine box_event ?hg (N := 13) ?hd (cs := #[.int .i64 0, .int .i64 0, .int .i64 0, .int .i64 0]) (t := 98) ?hr ?_; (case hd => rfl); (case hg => rfl); (case hr => first | (go_simp; done) | (go_simp; rfl)); intro gb228 hg w140 hbox hb; have n0_ := ak (blk_below (bx BK200.out) hb); have n1_ := ak (blk_below (bx BK201.out) hb); have n2_ := ak (blk_below (bx BK202.out) hb); have n3_ := ak (blk_below (g := gbx) (o := .cells #[.int .i64 0] 30 (0, 0)) (bx BK999.out) hb); have n4_ := ak (below_step lb hb); have n5_ := ak (hbox); have n6_ := ak ((by rw [hg]; exact (below_size lb) : w.heap.size ≤ gb228)); have n7_ := ak ((by rw [hg]; exact (below_size lb) : w.heap.size ≤ gb228)); have n8_ := ak ((by rw [hg]; exact Nat.ne_of_lt (blk_lt (g := gb200) (o := .cells #[.int .i64 a0_0, .slice (some ad227) l0_1.length c0_1] 24 (0, 0)) (bx BK200.out)) : gb200 ≠ gb228)); have n9_ := ak ((by rw [hg]; exact Nat.ne_of_gt (blk_lt (g := gb200) (o := .cells #[.int .i64 a0_0, .slice (some ad227) l0_1.length c0_1] 24 (0, 0)) (bx BK200.out)) : gb228 ≠ gb200)); have n10_ := ak ((by rw [hg]; exact Nat.ne_of_lt (blk_lt (g := gb201) (o := .cells #[.slice A1_0 l1_0.length c1_0, .slice A1_1 l1_1.length c1_1] 51 (0, 0)) (bx BK201.out)) : gb201 ≠ gb228)); have n11_ := ak ((by rw [hg]; exact Nat.ne_of_gt (blk_lt (g := gb201) (o := .cells #[.slice A1_0 l1_0.length c1_0, .slice A1_1 l1_1.length c1_1] 51 (0, 0)) (bx BK201.out)) : gb228 ≠ gb201)); have n12_ := ak ((by rw [hg]; exact Nat.ne_of_lt (blk_lt (g := gb202) (o := .cells #[.int .i64 x203000_5] 2 (0, 0)) (bx BK202.out)) : gb202 ≠ gb228)); have n13_ := ak ((by rw [hg]; exact Nat.ne_of_gt (blk_lt (g := gb202) (o := .cells #[.int .i64 x203000_5] 2 (0, 0)) (bx BK202.out)) : gb228 ≠ gb202)); have n14_ := ak ((by rw [hg]; exact Nat.ne_of_lt (blk_lt (g := gbx) (o := .cells #[.int .i64 0] 30 (0, 0)) (bx BK999.out)) : gbx ≠ gb228)); have n15_ := ak ((by rw [hg]; exact Nat.ne_of_gt (blk_lt (g := gbx) (o := .cells #[.int .i64 0] 30 (0, 0)) (bx BK999.out)) : gb228 ≠ gbx)); clear BK200; clear BK201; clear BK202; clear BK999; clear HB; have BK200 := n0_; have BK201 := n1_; have BK202 := n2_; have BK999 := n3_; have HB := n4_; have BK228 := n5_; have GW228 := n6_; have GE228 := n7_; have NB200_228 := n8_; have NB228_200 := n9_; have NB201_228 := n10_; have NB228_201 := n11_; have NB202_228 := n12_; have NB228_202 := n13_; have NB999_228 := n14_; have NB228_999 := n15_; clear n0_ n1_ n2_ n3_ n4_ n5_ n6_ n7_ n8_ n9_ n10_ n11_ n12_ n13_ n14_ n15_; clear hb hbox hg; have hnb141 := NB228_200.out; have hnc141 := NB200_228.out; have hnb142 := NB228_201.out; have hnc142 := NB201_228.out; have hnb143 := NB228_202.out; have hnc143 := NB202_228.out; have hnb144 := NB228_999.out; have hnc144 := NB999_228.out; have hcz145_0 : w140.cell? ⟨gb228, 0, none⟩ = some (.int .i64 0) := (blk_cell BK228.out 0).trans rfl; have hcz145_1 : w140.cell? ⟨gb228, 1, none⟩ = some (.int .i64 0) := (blk_cell BK228.out 1).trans rfl; have hcz145_2 : w140.cell? ⟨gb228, 2, none⟩ = some (.int .i64 0) := (blk_cell BK228.out 2).trans rfl; have hcz145_3 : w140.cell? ⟨gb228, 3, none⟩ = some (.int .i64 0) := (blk_cell BK228.out 3).trans rfl; have hfz145_0 := blk_frozen BK228.out 0; have hfz145_1 := blk_frozen BK228.out 1; have hfz145_2 := blk_frozen BK228.out 2; have hfz145_3 := blk_frozen BK228.out 3))
                    have n0_ : Aside0 (((((w140.setCell ⟨gb228, 0, none⟩ (.int .i64 ((rd_T98 l0_1 x129_5).f0))).setCell ⟨gb228, 1, none⟩ (.int .i64 ((rd_T98 l0_1 x129_5).f1))).setCell ⟨gb228, 2, none⟩ (.int .i64 ((rd_T98 l0_1 x129_5).f2))).setCell ⟨gb228, 3, none⟩ (.int .i64 ((rd_T98 l0_1 x129_5).f3))).heap[gb200]? = some (.cells #[.int .i64 a0_0, .slice (some ad227) l0_1.length c0_1] 24 (0, 0))) := ⟨by (with_reducible repeat (first | refine blk_drewN ?_ _ | refine blk_drew ?_ | refine blk_alloc ?_ _)); refine blk_far ?_ NB200_228.out _; (with_reducible repeat (first | refine blk_drewN ?_ _ | refine blk_drew ?_ | refine blk_alloc ?_ _)); refine blk_far ?_ NB200_228.out _; (with_reducible repeat (first | refine blk_drewN ?_ _ | refine blk_drew ?_ | refine blk_alloc ?_ _)); refine blk_far ?_ NB200_228.out _; (with_reducible repeat (first | refine blk_drewN ?_ _ | refine blk_drew ?_ | refine blk_alloc ?_ _)); refine blk_far ?_ NB200_228.out _; exact bx BK200.out⟩
                    have n1_ : Aside0 (((((w140.setCell ⟨gb228, 0, none⟩ (.int .i64 ((rd_T98 l0_1 x129_5).f0))).setCell ⟨gb228, 1, none⟩ (.int .i64 ((rd_T98 l0_1 x129_5).f1))).setCell ⟨gb228, 2, none⟩ (.int .i64 ((rd_T98 l0_1 x129_5).f2))).setCell ⟨gb228, 3, none⟩ (.int .i64 ((rd_T98 l0_1 x129_5).f3))).heap[gb201]? = some (.cells #[.slice A1_0 l1_0.length c1_0, .slice A1_1 l1_1.length c1_1] 51 (0, 0))) := ⟨by (with_reducible repeat (first | refine blk_drewN ?_ _ | refine blk_drew ?_ | refine blk_alloc ?_ _)); refine blk_far ?_ NB201_228.out _; (with_reducible repeat (first | refine blk_drewN ?_ _ | refine blk_drew ?_ | refine blk_alloc ?_ _)); refine blk_far ?_ NB201_228.out _; (with_reducible repeat (first | refine blk_drewN ?_ _ | refine blk_drew ?_ | refine blk_alloc ?_ _)); refine blk_far ?_ NB201_228.out _; (with_reducible repeat (first | refine blk_drewN ?_ _ | refine blk_drew ?_ | refine blk_alloc ?_ _)); refine blk_far ?_ NB201_228.out _; exact bx BK201.out⟩
                    have n2_ : Aside0 (((((w140.setCell ⟨gb228, 0, none⟩ (.int .i64 ((rd_T98 l0_1 x129_5).f0))).setCell ⟨gb228, 1, none⟩ (.int .i64 ((rd_T98 l0_1 x129_5).f1))).setCell ⟨gb228, 2, none⟩ (.int .i64 ((rd_T98 l0_1 x129_5).f2))).setCell ⟨gb228, 3, none⟩ (.int .i64 ((rd_T98 l0_1 x129_5).f3))).heap[gb202]? = some (.cells #[.int .i64 x203000_5] 2 (0, 0))) := ⟨by (with_reducible repeat (first | refine blk_drewN ?_ _ | refine blk_drew ?_ | refine blk_alloc ?_ _)); refine blk_far ?_ NB202_228.out _; (with_reducible repeat (first | refine blk_drewN ?_ _ | refine blk_drew ?_ | refine blk_alloc ?_ _)); refine blk_far ?_ NB202_228.out _; (with_reducible repeat (first | refine blk_drewN ?_ _ | refine blk_drew ?_ | refine blk_alloc ?_ _)); refine blk_far ?_ NB202_228.out _; (with_reducible repeat (first | refine blk_drewN ?_ _ | refine blk_drew ?_ | refine blk_alloc ?_ _)); refine blk_far ?_ NB202_228.out _; exact bx BK202.out⟩
                    have n3_ : Aside0 (((((w140.setCell ⟨gb228, 0, none⟩ (.int .i64 ((rd_T98 l0_1 x129_5).f0))).setCell ⟨gb228, 1, none⟩ (.int .i64 ((rd_T98 l0_1 x129_5).f1))).setCell ⟨gb228, 2, none⟩ (.int .i64 ((rd_T98 l0_1 x129_5).f2))).setCell ⟨gb228, 3, none⟩ (.int .i64 ((rd_T98 l0_1 x129_5).f3))).heap[gbx]? = some (.cells #[.int .i64 0] 30 (0, 0))) := ⟨by (with_reducible repeat (first | refine blk_drewN ?_ _ | refine blk_drew ?_ | refine blk_alloc ?_ _)); refine blk_far ?_ NB999_228.out _; (with_reducible repeat (first | refine blk_drewN ?_ _ | refine blk_drew ?_ | refine blk_alloc ?_ _)); refine blk_far ?_ NB999_228.out _; (with_reducible repeat (first | refine blk_drewN ?_ _ | refine blk_drew ?_ | refine blk_alloc ?_ _)); refine blk_far ?_ NB999_228.out _; (with_reducible repeat (first | refine blk_drewN ?_ _ | refine blk_drew ?_ | refine blk_alloc ?_ _)); refine blk_far ?_ NB999_228.out _; exact bx BK999.out⟩
                    have n4_ : Aside0 (((((w140.setCell ⟨gb228, 0, none⟩ (.int .i64 ((rd_T98 l0_1 x129_5).f0))).setCell ⟨gb228, 1, none⟩ (.int .i64 ((rd_T98 l0_1 x129_5).f1))).setCell ⟨gb228, 2, none⟩ (.int .i64 ((rd_T98 l0_1 x129_5).f2))).setCell ⟨gb228, 3, none⟩ (.int .i64 ((rd_T98 l0_1 x129_5).f3))).heap[gb228]? = some (.cells #[.int .i64 ((rd_T98 l0_1 x129_5).f0), .int .i64 ((rd_T98 l0_1 x129_5).f1), .int .i64 ((rd_T98 l0_1 x129_5).f2), .int .i64 ((rd_T98 l0_1 x129_5).f3)] 98 (0, 0))) := ⟨by (with_reducible repeat (first | refine blk_drewN ?_ _ | refine blk_drew ?_ | refine blk_alloc ?_ _)); refine blk_put (cs := #[.int .i64 ((rd_T98 l0_1 x129_5).f0), .int .i64 ((rd_T98 l0_1 x129_5).f1), .int .i64 ((rd_T98 l0_1 x129_5).f2), .int .i64 0]) ?_ 3 _ rfl; (with_reducible repeat (first | refine blk_drewN ?_ _ | refine blk_drew ?_ | refine blk_alloc ?_ _)); refine blk_put (cs := #[.int .i64 ((rd_T98 l0_1 x129_5).f0), .int .i64 ((rd_T98 l0_1 x129_5).f1), .int .i64 0, .int .i64 0]) ?_ 2 _ rfl; (with_reducible repeat (first | refine blk_drewN ?_ _ | refine blk_drew ?_ | refine blk_alloc ?_ _)); refine blk_put (cs := #[.int .i64 ((rd_T98 l0_1 x129_5).f0), .int .i64 0, .int .i64 0, .int .i64 0]) ?_ 1 _ rfl; (with_reducible repeat (first | refine blk_drewN ?_ _ | refine blk_drew ?_ | refine blk_alloc ?_ _)); refine blk_put (cs := #[.int .i64 0, .int .i64 0, .int .i64 0, .int .i64 0]) ?_ 0 _ rfl; exact bx BK228.out⟩
                    have n5_ : Aside0 (Below w.heap.size w ((((w140.setCell ⟨gb228, 0, none⟩ (.int .i64 ((rd_T98 l0_1 x129_5).f0))).setCell ⟨gb228, 1, none⟩ (.int .i64 ((rd_T98 l0_1 x129_5).f1))).setCell ⟨gb228, 2, none⟩ (.int .i64 ((rd_T98 l0_1 x129_5).f2))).setCell ⟨gb228, 3, none⟩ (.int .i64 ((rd_T98 l0_1 x129_5).f3)))) := ⟨lb⟩
                    (try clear BK200)
                    (try clear BK201)
                    (try clear BK202)
                    (try clear BK999)
                    (try clear BK228)
                    (try clear HB)
                    generalize ((((w140.setCell ⟨gb228, 0, none⟩ (.int .i64 ((rd_T98 l0_1 x129_5).f0))).setCell ⟨gb228, 1, none⟩ (.int .i64 ((rd_T98 l0_1 x129_5).f1))).setCell ⟨gb228, 2, none⟩ (.int .i64 ((rd_T98 l0_1 x129_5).f2))).setCell ⟨gb228, 3, none⟩ (.int .i64 ((rd_T98 l0_1 x129_5).f3))) = w146 at n0_ n1_ n2_ n3_ n4_ n5_ ⊢
                    have BK200 := n0_
                    have BK201 := n1_
                    have BK202 := n2_
                    have BK999 := n3_
                    have BK228 := n4_
                    have HB := n5_
                    clear n0_ n1_ n2_ n3_ n4_ n5_
                    have n0_ := ak (blk_drew BK200.out)
                    have n1_ := ak (blk_drew BK201.out)
                    have n2_ := ak (blk_drew BK202.out)
                    have n3_ := ak (blk_drew BK999.out)
                    have n4_ := ak (blk_drew BK228.out)
                    have n5_ := ak (below_drew1 HB.out)
                    clear BK200
                    clear BK201
                    clear BK202
                    clear BK999
                    clear BK228
                    clear HB
                    have BK200 := n0_
                    have BK201 := n1_
                    have BK202 := n2_
                    have BK999 := n3_
                    have BK228 := n4_
                    have HB := n5_
                    clear n0_ n1_ n2_ n3_ n4_ n5_
                    have p229 : 0 ≤ (x129_5 : Int) := oda
                    have q229 : x129_5 < (l1_0.length : Int) := oda
                    obtain ⟨ad229, e229, hx229_0⟩ := Kd.at_int HR1_0.out x129_5 p229 q229
                    have hw229_0 := hx229_0
                    cases e229
                    (try replace hx229_0 := (HB.out.cell (World.block_lt_of_cell? w _ hx229_0)).trans hx229_0)
                    replace p229 := eq_true p229
                    replace q229 := eq_true q229
                    refine start_ (n := 11) (S := fun w' => w'.cell? ⟨gb202, 0, none⟩ = some (.int .i64 x203000_5) ∧ w'.cell? ⟨gb228, 0, none⟩ = some (.int .i64 ((rd_T98 l0_1 x129_5).f0)) ∧ w'.cell? ⟨gb228, 1, none⟩ = some (.int .i64 ((rd_T98 l0_1 x129_5).f1)) ∧ w'.cell? ⟨gb228, 2, none⟩ = some (.int .i64 ((rd_T98 l0_1 x129_5).f2)) ∧ w'.cell? ⟨gb228, 3, none⟩ = some (.int .i64 ((rd_T98 l0_1 x129_5).f3)) ∧ w'.cell? ⟨gb201, 0, none⟩ = some (.slice (some ad229) l1_0.length c1_0) ∧ w'.cell? ⟨gb201, 1, none⟩ = some (.slice A1_1 l1_1.length c1_1) ∧ w'.cell? (ad229.add (x129_5).toNat) = some (.int .i64 (rd l1_0 x129_5))) (ds := [10]) #[false, false, false, false, false, false, false, false, false, false, false] (by kernel_rfl) rfl rfl ⟨(blk_cell BK202.out 0).trans rfl, (blk_cell BK228.out 0).trans rfl, (blk_cell BK228.out 1).trans rfl, (blk_cell BK228.out 2).trans rfl, (blk_cell BK228.out 3).trans rfl, (blk_cell BK201.out 0).trans rfl, (blk_cell BK201.out 1).trans rfl, ((HB.out.cell (World.block_lt_of_cell? w _ hw229_0)).trans hw229_0)⟩ (fun hHeld => ?_); refine with_tabW proof_Postman_1.tab29 proof_Postman_1.bits29 (fun HT_ HW_ => ?_)
                    generalize w146.drew = w147 at BK200 BK201 BK202 BK999 BK228 HB hx229_0 hHeld ⊢
                    refine pure_ (i := 1) (N := some 135) (v := ?_) (a' := ?_) #[false, true, false, false, false, false, false, false, false, false, false] rfl rfl (any_of HT_.out (by kernel_rfl)) (fun _ _ _ h => h) (Or.inl ⟨by rfl, ?_⟩) ?_ ?_; rotate_left; intro w'; go_simp; with_reducible rfl; rotate_left; simp only [Act.put, List.setIfInBounds_toArray, List.set_cons_zero, List.set_cons_succ, i64_w, i32_w]; rfl
                    refine pure_ (i := 3) (N := some 137) (v := ?_) (a' := ?_) #[false, true, false, true, false, false, false, false, false, false, false] rfl rfl (any_of HT_.out (by kernel_rfl)) (fun _ _ _ h => h) (Or.inl ⟨by rfl, ?_⟩) ?_ ?_; rotate_left; intro w'; go_simp; with_reducible rfl; rotate_left; simp only [Act.put, List.setIfInBounds_toArray, List.set_cons_zero, List.set_cons_succ, i64_w, i32_w]; rfl
                    refine pure_ (i := 5) (N := some 139) (v := ?_) (a' := ?_) #[false, true, false, true, false, true, false, false, false, false, false] rfl rfl (any_of HT_.out (by kernel_rfl)) (fun _ _ _ h => h) (Or.inl ⟨by rfl, ?_⟩) ?_ ?_; rotate_left; intro w'; go_simp; with_reducible rfl; rotate_left; simp only [Act.put, List.setIfInBounds_toArray, List.set_cons_zero, List.set_cons_succ, i64_w, i32_w]; rfl
                    refine take_ (i := 0) (N := some 134) (v := ?_) (a' := ?_) #[true, true, false, true, false, true, false, false, false, false, false] rfl rfl (take_ofW HT_.out HW_.out (by kernel_rfl)) (fun _ _ _ h => h) (Or.inl ⟨by rfl, ?_⟩) hHeld ?_ ?_; rotate_left; rintro w' ⟨s0, s1, s2, s3, s4, s5, s6, s7⟩; go_simp; with_reducible rfl; rotate_left; simp only [Act.put, List.setIfInBounds_toArray, List.set_cons_zero, List.set_cons_succ, i64_w, i32_w]; rfl
                    refine take_ (i := 2) (N := some 136) (v := ?_) (a' := ?_) #[true, true, true, true, false, true, false, false, false, false, false] rfl rfl (take_ofW HT_.out HW_.out (by kernel_rfl)) (fun _ _ _ h => h) (Or.inl ⟨by rfl, ?_⟩) hHeld ?_ ?_; rotate_left; rintro w' ⟨s0, s1, s2, s3, s4, s5, s6, s7⟩; go_simp; with_reducible rfl; rotate_left; simp only [Act.put, List.setIfInBounds_toArray, List.set_cons_zero, List.set_cons_succ, i64_w, i32_w]; rfl
                    refine take_ (i := 4) (N := some 138) (v := ?_) (a' := ?_) #[true, true, true, true, true, true, false, false, false, false, false] rfl rfl (take_ofW HT_.out HW_.out (by kernel_rfl)) (fun _ _ _ h => h) (Or.inl ⟨by rfl, ?_⟩) hHeld ?_ ?_; rotate_left; rintro w' ⟨s0, s1, s2, s3, s4, s5, s6, s7⟩; go_simp; with_reducible rfl; rotate_left; simp only [Act.put, List.setIfInBounds_toArray, List.set_cons_zero, List.set_cons_succ, i64_w, i32_w]; rfl
                    refine pure_ (i := 6) (N := some 140) (v := ?_) (a' := ?_) #[true, true, true, true, true, true, true, false, false, false, false] rfl rfl (any_of HT_.out (by kernel_rfl)) (fun _ _ _ h => h) (Or.inl ⟨by rfl, ?_⟩) ?_ ?_; rotate_left; intro w'; go_simp; with_reducible rfl; rotate_left; simp only [Act.put, List.setIfInBounds_toArray, List.set_cons_zero, List.set_cons_succ, i64_w, i32_w]; rfl
                    refine take_ (i := 7) (N := some 141) (v := ?_) (a' := ?_) #[true, true, true, true, true, true, true, true, false, false, false] rfl rfl (take_ofW HT_.out HW_.out (by kernel_rfl)) (fun _ _ _ h => h) (Or.inl ⟨by rfl, ?_⟩) hHeld ?_ ?_; rotate_left; rintro w' ⟨s0, s1, s2, s3, s4, s5, s6, s7⟩; go_simp; with_reducible rfl; rotate_left; simp only [Act.put, List.setIfInBounds_toArray, List.set_cons_zero, List.set_cons_succ, i64_w, i32_w]; rfl
                    refine pure_ (i := 8) (N := some 142) (v := ?_) (a' := ?_) #[true, true, true, true, true, true, true, true, true, false, false] rfl rfl (any_of HT_.out (by kernel_rfl)) (fun _ _ _ h => h) (Or.inl ⟨by rfl, ?_⟩) ?_ ?_; rotate_left; intro w'; go_simp; with_reducible rfl; rotate_left; simp only [Act.put, List.setIfInBounds_toArray, List.set_cons_zero, List.set_cons_succ, i64_w, i32_w]; rfl
                    refine pure_ (i := 9) (N := some 143) (v := ?_) (a' := ?_) #[true, true, true, true, true, true, true, true, true, true, false] rfl rfl (any_of HT_.out (by kernel_rfl)) (fun _ _ _ h => h) (Or.inl ⟨by rfl, ?_⟩) ?_ ?_; rotate_left; intro w'; go_simp; with_reducible rfl; rotate_left; simp only [Act.put, List.setIfInBounds_toArray, List.set_cons_zero, List.set_cons_succ, i64_w, i32_w]; rfl
                    refine last_ (i := 10) (N := none) #[true, true, true, true, true, true, true, true, true, true, true] rfl rfl (one_of HT_.out (by kernel_rfl)) (by decide) (fun K hK => ?_)
                    have hs148 : w147.cell? ⟨gb202, 0, none⟩ = some (.int .i64 x203000_5) := (blk_cell BK202.out 0).trans rfl
                    have hfs148 := blk_frozen BK202.out 0
                    have hns148_0 := NB200_202.out
                    have hns148_1 := NB201_202.out
                    have hns148_3 := NB999_202.out
                    have hns148_4 := NB228_202.out
                    have hms148_0 := NB202_200.out
                    have hms148_1 := NB202_201.out
                    have hms148_3 := NB202_999.out
                    have hms148_4 := NB202_228.out
                    refine skip_ (w1 := ?_) (by rfl) rfl ?_ ?_
                    rotate_left
                    ·
                     go_simp
                     rfl
                    refine hK.out _ _ ?_
                    clear hK K
                    refine done_ (done_of HT_.out (by kernel_rfl)) ?_
                    try go_wp2
                    go_roundg k5
                    case measure => have := HK1.out; have := HK2.out; have := HK3.out; have := HK4.out; have := HK5.out; omega
                    case rel => exact ⟨(wrap64 (x129_5 + 1)), (wrap64 (x203000_5 + (wrap64 (((rd_T98 l0_1 x129_5).f3) * (rd l1_0 x129_5))))), (by first | rfl | (simp [*]; done)), H', ⟨by have := HK1.out; have := HK2.out; have := HK3.out; have := HK4.out; have := HK5.out; omega⟩, ⟨by (with_reducible repeat (first | refine blk_drewN ?_ _ | refine blk_drew ?_ | refine blk_alloc ?_ _)); refine blk_far ?_ NB200_202.out _; exact bx BK200.out⟩, ⟨by (with_reducible repeat (first | refine blk_drewN ?_ _ | refine blk_drew ?_ | refine blk_alloc ?_ _)); refine blk_far ?_ NB201_202.out _; exact bx BK201.out⟩, ⟨by (with_reducible repeat (first | refine blk_drewN ?_ _ | refine blk_drew ?_ | refine blk_alloc ?_ _)); refine blk_put (cs := #[.int .i64 x203000_5]) ?_ 0 _ rfl; exact bx BK202.out⟩, ⟨by (with_reducible repeat (first | refine blk_drewN ?_ _ | refine blk_drew ?_ | refine blk_alloc ?_ _)); refine blk_far ?_ NB999_202.out _; exact bx BK999.out⟩, ⟨lb⟩⟩
                   ·
                    rw [if_neg c136] at H
                    have c136b0 : decide (x129_5 < (l0_1.length : Int)) = false := decide_eq_false c136
                    clear c136
                    simp only [Option.some.injEq, Prod.mk.injEq] at H
                    obtain ⟨rfl, rfl⟩ := H
                    go_wp2
                    first | go_end0 | ((try simp only [Exit.inBlock, Exit.then]); refine bodyPost_ret (results_none rfl _ _ _) rfl ?_)
                    exact ⟨Gave.ok (by first | rfl | (simp <;> rfl)), (bx BK202.out), (bx BK999.out), lb⟩
             ·
              rw [if_neg c103] at H
              have A102 := ak A1020
              clear A1020
              simp only [Option.some.injEq, Prod.mk.injEq] at H
              obtain ⟨rfl, rfl⟩ := H
              have hnb149 := NB200_201.out
              have hnc149 := NB201_200.out
              have hnb150 := NB200_202.out
              have hnc150 := NB202_200.out
              have hnb151 := NB200_999.out
              have hnc151 := NB999_200.out
              have hcz152_0 : wr.cell? ⟨gb200, 0, none⟩ = some (.int .i64 a0_0) := (blk_cell BK200.out 0).trans rfl
              have hcz152_1 : wr.cell? ⟨gb200, 1, none⟩ = some (.slice A0_1 l0_1.length c0_1) := (blk_cell BK200.out 1).trans rfl
              have hfz152_0 := blk_frozen BK200.out 0
              have hfz152_1 := blk_frozen BK200.out 1
              go_wp2_with (first | ((with_reducible refine gate_callee (f := 67) rfl ?_); refine goesL_ (some 98) rfl rfl Try.func67 (by kernel_rfl) rfl #[.agg #[.int .i64 a0_0, .slice A0_1 l0_1.length c0_1]] rfl (by (try simp only [List.map_toArray, List.map_cons, List.map_nil]); first | done | rfl | (simp only [List.length_drop, List.length_take]; rfl)) ?_; (with_reducible refine (proof_together.calls k3 a0_0 _ _ l0_1 true _ ?side1 ?side2 A99.out).mono ?_); (case side1 => repeat (first | exact (Kd.C_below HR0_1.out HB.out) | (with_reducible refine Kd.C_alloc ?_ _) | (with_reducible refine Kd.C_drewN ?_ _) | (with_reducible refine Kd.C_drew ?_))); (case side2 => exact HC0_1.out); rintro e w153 ⟨rfl, hb⟩; refine ⟨_, rfl, ?_⟩; have n0_ := ak (Kd.R_below (rx HO_87.out) hb); have n1_ := ak (blk_below (bx BK200.out) hb); have n2_ := ak (blk_below (bx BK201.out) hb); have n3_ := ak (blk_below (bx BK202.out) hb); have n4_ := ak (blk_below (g := gbx) (o := .cells #[.int .i64 0] 30 (0, 0)) (bx BK999.out) hb); have n5_ := ak (below_step lb hb); clear HO_87; clear BK200; clear BK201; clear BK202; clear BK999; clear HB; have HO_87 := n0_; have BK200 := n1_; have BK201 := n2_; have BK202 := n3_; have BK999 := n4_; have HB := n5_; clear n0_ n1_ n2_ n3_ n4_ n5_; (try clear hb); (try clear hb2); (try clear hk); (try clear hi)) | ((with_reducible refine gate_callee (f := 51) rfl ?_); refine goesL_ (some 99) rfl rfl Try.func51 (by kernel_rfl) rfl #[.bool true, .int .i64 221] rfl (by (try simp only [List.map_toArray, List.map_cons, List.map_nil]); first | done | rfl | (simp only [List.length_drop, List.length_take]; rfl)) ?_; (with_reducible refine (proof_need.calls true 221  _ A101.out).mono ?_); rintro e w' ⟨rfl, ⟨nd, rfl⟩⟩; refine ⟨_, rfl, ?_⟩; have hcz154_0 : w153.cell? ⟨gb200, 0, none⟩ = some (.int .i64 a0_0) := (blk_cell BK200.out 0).trans rfl; have hcz154_1 : w153.cell? ⟨gb200, 1, none⟩ = some (.slice A0_1 l0_1.length c0_1) := (blk_cell BK200.out 1).trans rfl; have hfz154_0 := blk_frozen BK200.out 0; have hfz154_1 := blk_frozen BK200.out 1; have hnb155 := NB201_202.out; have hnc155 := NB202_201.out; have hnb156 := NB201_999.out; have hnc156 := NB999_201.out; have hcz157_0 : w153.cell? ⟨gb201, 0, none⟩ = some (.slice A1_0 l1_0.length c1_0) := (blk_cell BK201.out 0).trans rfl; have hcz157_1 : w153.cell? ⟨gb201, 1, none⟩ = some (.slice A1_1 l1_1.length c1_1) := (blk_cell BK201.out 1).trans rfl; have hfz157_0 := blk_frozen BK201.out 0; have hfz157_1 := blk_frozen BK201.out 1) | ((with_reducible refine gate_callee (f := 62) rfl ?_); refine panicsL_ (some 103) rfl rfl Try.func62 (by kernel_rfl) rfl #[.agg #[.int .i64 a0_0, .slice A0_1 l0_1.length c0_1], .slice A1_1 l1_1.length c1_1, .int .i64 1] rfl (by (try simp only [List.map_toArray, List.map_cons, List.map_nil]); first | done | rfl | (simp only [List.length_drop, List.length_take]; rfl)) ?_; (with_reducible refine (proof_reduced.bad k3 a0_0 _ _ l0_1 _ _ l1_1 1 t221 t222 _ ?side1 ?side2 ?side3 ?side4 A102.out c103).mono ?_); (case side1 => repeat (first | exact (Kd.C_below HR0_1.out lb) | (with_reducible refine Kd.C_alloc ?_ _) | (with_reducible refine Kd.C_drewN ?_ _) | (with_reducible refine Kd.C_drew ?_))); (case side2 => exact HC0_1.out); (case side3 => repeat (first | exact (Kd.C_below HR1_1.out lb) | (with_reducible refine Kd.C_alloc ?_ _) | (with_reducible refine Kd.C_drewN ?_ _) | (with_reducible refine Kd.C_drew ?_))); (case side4 => exact HC1_1.out); rintro e w158 ⟨rfl, hb⟩; refine ⟨_, rfl, ?_⟩; (repeat (first | refine panic_then ?_ | refine panic_block ?_)); exact panic_body rfl (⟨Gave.no c103 rfl, blk_below (bx BK202.out) hb, blk_below (bx BK999.out) hb, below_step lb hb⟩)))
            ·
             replace c100 := Bool.eq_false_iff.mpr c100
             subst c100
             have H1 : (some (221, a2)) = some (r1, r2) := by rw [if_neg (show ¬ (false = true) by decide)] at H; exact H
             clear H
             have H := H1
             clear H1
             simp only [Option.some.injEq, Prod.mk.injEq] at H
             obtain ⟨rfl, rfl⟩ := H
             have hnb159 := NB200_201.out
             have hnc159 := NB201_200.out
             have hnb160 := NB200_202.out
             have hnc160 := NB202_200.out
             have hnb161 := NB200_999.out
             have hnc161 := NB999_200.out
             have hcz162_0 : wr.cell? ⟨gb200, 0, none⟩ = some (.int .i64 a0_0) := (blk_cell BK200.out 0).trans rfl
             have hcz162_1 : wr.cell? ⟨gb200, 1, none⟩ = some (.slice A0_1 l0_1.length c0_1) := (blk_cell BK200.out 1).trans rfl
             have hfz162_0 := blk_frozen BK200.out 0
             have hfz162_1 := blk_frozen BK200.out 1
             go_wp2_with (first | ((with_reducible refine gate_callee (f := 67) rfl ?_); refine goesL_ (some 98) rfl rfl Try.func67 (by kernel_rfl) rfl #[.agg #[.int .i64 a0_0, .slice A0_1 l0_1.length c0_1]] rfl (by (try simp only [List.map_toArray, List.map_cons, List.map_nil]); first | done | rfl | (simp only [List.length_drop, List.length_take]; rfl)) ?_; (with_reducible refine (proof_together.calls k3 a0_0 _ _ l0_1 false _ ?side1 ?side2 A99.out).mono ?_); (case side1 => repeat (first | exact (Kd.C_below HR0_1.out HB.out) | (with_reducible refine Kd.C_alloc ?_ _) | (with_reducible refine Kd.C_drewN ?_ _) | (with_reducible refine Kd.C_drew ?_))); (case side2 => exact HC0_1.out); rintro e w163 ⟨rfl, hb⟩; refine ⟨_, rfl, ?_⟩; have n0_ := ak (Kd.R_below (rx HO_87.out) hb); have n1_ := ak (blk_below (bx BK200.out) hb); have n2_ := ak (blk_below (bx BK201.out) hb); have n3_ := ak (blk_below (bx BK202.out) hb); have n4_ := ak (blk_below (g := gbx) (o := .cells #[.int .i64 0] 30 (0, 0)) (bx BK999.out) hb); have n5_ := ak (below_step lb hb); clear HO_87; clear BK200; clear BK201; clear BK202; clear BK999; clear HB; have HO_87 := n0_; have BK200 := n1_; have BK201 := n2_; have BK202 := n3_; have BK999 := n4_; have HB := n5_; clear n0_ n1_ n2_ n3_ n4_ n5_; (try clear hb); (try clear hb2); (try clear hk); (try clear hi)) | ((with_reducible refine gate_callee (f := 51) rfl ?_); refine panicsL_ (some 99) rfl rfl Try.func51 (by kernel_rfl) rfl #[.bool false, .int .i64 221] rfl (by (try simp only [List.map_toArray, List.map_cons, List.map_nil]); first | done | rfl | (simp only [List.length_drop, List.length_take]; rfl)) ?_; refine (proof_need.bad 221 _).mono ?_; rintro e w' ⟨rfl, rfl⟩; refine ⟨_, rfl, ?_⟩; (repeat (first | refine panic_then ?_ | refine panic_block ?_)); exact panic_body rfl (⟨Gave.no (by first | decide | assumption | (simp_all; done)) rfl, (bx BK202.out), (bx BK999.out), lb⟩)))
     ·
      rw [if_neg c29] at H
      have c29b0 : ((l1_0.length : Int) == (l0_1.length : Int)) = false := beq_eq_false_iff_ne.mpr c29
      have c29b1 : ((l1_0.length : Int) != (l0_1.length : Int)) = true := bne_iff_ne.mpr c29
      have c29b2 : (l1_0.length == l0_1.length) = false := by first | simpa using c29 | (simp at c29 ⊢; omega)
      simp only [Option.some.injEq, Prod.mk.injEq] at H
      obtain ⟨rfl, rfl⟩ := H
      have hnb164 := NB201_200.out
      have hnc164 := NB200_201.out
      have hnb165 := NB201_202.out
      have hnc165 := NB202_201.out
      have hnb166 := NB201_999.out
      have hnc166 := NB999_201.out
      have hcz167_0 : wr.cell? ⟨gb201, 0, none⟩ = some (.slice A1_0 l1_0.length c1_0) := (blk_cell BK201.out 0).trans rfl
      have hcz167_1 : wr.cell? ⟨gb201, 1, none⟩ = some (.slice A1_1 l1_1.length c1_1) := (blk_cell BK201.out 1).trans rfl
      have hfz167_0 := blk_frozen BK201.out 0
      have hfz167_1 := blk_frozen BK201.out 1
      have hnb168 := NB200_202.out
      have hnc168 := NB202_200.out
      have hnb169 := NB200_999.out
      have hnc169 := NB999_200.out
      have hcz170_0 : wr.cell? ⟨gb200, 0, none⟩ = some (.int .i64 a0_0) := (blk_cell BK200.out 0).trans rfl
      have hcz170_1 : wr.cell? ⟨gb200, 1, none⟩ = some (.slice A0_1 l0_1.length c0_1) := (blk_cell BK200.out 1).trans rfl
      have hfz170_0 := blk_frozen BK200.out 0
      have hfz170_1 := blk_frozen BK200.out 1
      go_wp2_with (first | ((with_reducible refine gate_callee (f := 51) rfl ?_); refine panicsL_ (some 35) rfl rfl Try.func51 (by kernel_rfl) rfl #[.bool false, .int .i64 221] rfl (by (try simp only [List.map_toArray, List.map_cons, List.map_nil]); first | done | rfl | (simp only [List.length_drop, List.length_take]; rfl)) ?_; refine (proof_need.bad 221 _).mono ?_; rintro e w' ⟨rfl, rfl⟩; refine ⟨_, rfl, ?_⟩; (repeat (first | refine panic_then ?_ | refine panic_block ?_)); exact panic_body rfl (⟨Gave.no (by first | decide | assumption | (simp_all; done)) rfl, (bx BK202.out), (bx BK999.out), lb⟩)))
 ·
  rw [if_neg c5] at H
  have A4 := ak A40
  clear A40
  simp only [Option.some.injEq, Prod.mk.injEq] at H
  obtain ⟨rfl, rfl⟩ := H
  have hnb171 := NB200_201.out
  have hnc171 := NB201_200.out
  have hnb172 := NB200_202.out
  have hnc172 := NB202_200.out
  have hnb173 := NB200_999.out
  have hnc173 := NB999_200.out
  have hcz174_0 : wc0.cell? ⟨gb200, 0, none⟩ = some (.int .i64 a0_0) := (blk_cell BK200.out 0).trans rfl
  have hcz174_1 : wc0.cell? ⟨gb200, 1, none⟩ = some (.slice A0_1 l0_1.length c0_1) := (blk_cell BK200.out 1).trans rfl
  have hfz174_0 := blk_frozen BK200.out 0
  have hfz174_1 := blk_frozen BK200.out 1
  go_enter Try.func66, Try.ntmps66
  go_wp2_with (first | ((with_reducible refine gate_callee (f := 50) rfl ?_); refine panicsL_ (some 15) rfl rfl Try.func50 (by kernel_rfl) rfl #[.agg #[.int .i64 a0_0, .slice A0_1 l0_1.length c0_1]] rfl (by (try simp only [List.map_toArray, List.map_cons, List.map_nil]); first | done | rfl | (simp only [List.length_drop, List.length_take]; rfl)) ?_; (with_reducible refine (proof_right.bad k a0_0 _ _ l0_1 t203 _ ?side1 ?side2 A4.out c5).mono ?_); (case side1 => repeat (first | exact (Kd.C_below HR0_1.out HB.out) | (with_reducible refine Kd.C_alloc ?_ _) | (with_reducible refine Kd.C_drewN ?_ _) | (with_reducible refine Kd.C_drew ?_))); (case side2 => exact HC0_1.out); rintro e w175 ⟨rfl, hb⟩; refine ⟨_, rfl, ?_⟩; (repeat (first | refine panic_then ?_ | refine panic_block ?_)); exact panic_body rfl (⟨Gave.no c5 rfl, blk_below (bx BK202.out) hb, blk_below (bx BK999.out) hb, below_step lb hb⟩)))

end Go.Proofs.Ytkdoihcjhccliaa.Q
