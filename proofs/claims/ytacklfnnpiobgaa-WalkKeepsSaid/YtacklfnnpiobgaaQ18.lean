-- PRINTED by print.py (a twelfth state) out of the translation. Not trusted: Lean checks it.
import Derived.Test.YtacklfnnpiobgaaQ0
import Derived.Test.YtacklfnnpiobgaaQ3
import Derived.Test.YtacklfnnpiobgaaQ5
namespace Go.Proofs.Ytacklfnnpiobgaa.Q
open Go.RowKit Go.Proofs.YtacklfnnpiobgaaW.PrintWords Go.Proofs.YtacklfnnpiobgaaW.PrintLast Go.Proofs.YtacklfnnpiobgaaW.PrintMore
attribute [local go_sem] max2_int min2_int max_two min_two max_three min_three max_four min_four   -- for this text's walks alone
set_option linter.unusedVariables false
set_option linter.unusedSimpArgs false

/-! ### walk_Parts: function 23 -/
mutual
def walk_Parts.l0 : Nat → List (List Int) → List (S41) → Int → Int → Int → List (S41) → Option (List Int × Int)
  | 0, _, _, _, _, _, _ => none
  | k + 1, x5, x26, x27, x28, x383000, x383001 => if x28 < x27 then (if 0 ≤ x28 then (if x28 < (x26.length : Int) then (if 0 ≤ ((rd_T41 x26 x28).f0) then (if ((rd_T41 x26 x28).f0) < (x5.length : Int) then (if (rd_L2 x5 ((rd_T41 x26 x28).f0)).length < 17592186044416 then ((some (x5.set (((rd_T41 x26 x28).f0) : Int).toNat ((rd_L2 x5 ((rd_T41 x26 x28).f0)) ++ [(rd_T41 x26 x28).f1]) : List (List Int))).bind fun y395 => (if 0 ≤ ((rd_T41 x26 x28).f1) then (if ((rd_T41 x26 x28).f1) < (x5.length : Int) then (if (rd_L2 y395 ((rd_T41 x26 x28).f1)).length < 17592186044416 then (walk_Parts.l0 k (y395.set (((rd_T41 x26 x28).f1) : Int).toNat ((rd_L2 y395 ((rd_T41 x26 x28).f1)) ++ [(rd_T41 x26 x28).f0])) x26 x27 (wrap64 (x28 + 1)) x383000 x383001) else (none)) else (none)) else (none))) else (none)) else (none)) else (none)) else (none)) else (none)) else ((walk_filled.f k x383000 (-1)).bind fun t401 => (walk_Parts.l1 k x5 t401 0 x383000 0))
def walk_Parts.l1 : Nat → List (List Int) → List Int → Int → Int → Int → Option (List Int × Int)
  | 0, _, _, _, _, _ => none
  | k + 1, x5, x8, x9, x63, x64 => if x64 < x63 then (if 0 ≤ x64 then (if x64 < (x8.length : Int) then (if (rd x8 x64) ≥ 0 then (walk_Parts.l1 k x5 x8 x9 x63 (wrap64 (x64 + 1))) else (walk_Parts.l2 k x5 (x8.set (x64 : Int).toNat x9) x9 (([x64] : List Int)) x63 x64)) else (none)) else (none)) else (some (x8, 0))
def walk_Parts.l2 : Nat → List (List Int) → List Int → Int → List Int → Int → Int → Option (List Int × Int)
  | 0, _, _, _, _, _, _ => none
  | k + 1, x5, x8, x9, x11, x63, x64 => if (x11.length : Int) > 0 then (if 0 ≤ (wrap64 ((x11.length : Int) - 1)) then (if (wrap64 ((x11.length : Int) - 1)) < (x11.length : Int) then (if (wrap64 ((x11.length : Int) - 1)) ≤ (x11.length : Int) then (if 0 ≤ (rd x11 (wrap64 ((x11.length : Int) - 1))) then (if (rd x11 (wrap64 ((x11.length : Int) - 1))) < (x5.length : Int) then (walk_Parts.l3 k x5 x8 x9 (x11.take ((wrap64 ((x11.length : Int) - 1)) : Int).toNat) x63 x64 (rd_L2 x5 (rd x11 (wrap64 ((x11.length : Int) - 1)))) ((rd_L2 x5 (rd x11 (wrap64 ((x11.length : Int) - 1)))).length : Int) 0) else (none)) else (none)) else (none)) else (none)) else (none)) else (walk_Parts.l1 k x5 x8 (wrap64 (x9 + 1)) x63 (wrap64 (x64 + 1)))
def walk_Parts.l3 : Nat → List (List Int) → List Int → Int → List Int → Int → Int → List Int → Int → Int → Option (List Int × Int)
  | 0, _, _, _, _, _, _, _, _, _ => none
  | k + 1, x5, x8, x9, x11, x63, x64, x95, x96, x97 => if x97 < x96 then (if 0 ≤ x97 then (if x97 < (x95.length : Int) then (if 0 ≤ (rd x95 x97) then (if (rd x95 x97) < (x8.length : Int) then (if (rd x8 (rd x95 x97)) < 0 then (if x11.length < 17592186044416 then (walk_Parts.l3 k x5 (x8.set ((rd x95 x97) : Int).toNat x9) x9 (x11 ++ [rd x95 x97]) x63 x64 x95 x96 (wrap64 (x97 + 1))) else (none)) else (walk_Parts.l3 k x5 x8 x9 x11 x63 x64 x95 x96 (wrap64 (x97 + 1)))) else (none)) else (none)) else (none)) else (none)) else (walk_Parts.l2 k x5 x8 x9 x11 x63 x64)
end
def walk_Parts.f (k : Nat) (a0_0 : Int) (l0_1 : List (S41)) : Option (List Int × Int) := (graph_Check.f k a0_0 l0_1).bind fun bt383 => (if bt383.1 = 0 then (if 0 ≤ a0_0 then (if (a0_0 : Int).toNat ≤ 11728124029610 then (walk_Parts.l0 k (List.replicate (a0_0 : Int).toNat []) l0_1 (l0_1.length : Int) 0 a0_0 l0_1) else (none)) else (none)) else (some (([] : List Int), bt383.1)))
theorem walk_Parts.mono_l : ∀ k, (∀ y0 y1 y2 y3 y4 y5, LeO (walk_Parts.l0 k y0 y1 y2 y3 y4 y5) (walk_Parts.l0 (k + 1) y0 y1 y2 y3 y4 y5)) ∧ (∀ y0 y1 y2 y3 y4, LeO (walk_Parts.l1 k y0 y1 y2 y3 y4) (walk_Parts.l1 (k + 1) y0 y1 y2 y3 y4)) ∧ (∀ y0 y1 y2 y3 y4 y5, LeO (walk_Parts.l2 k y0 y1 y2 y3 y4 y5) (walk_Parts.l2 (k + 1) y0 y1 y2 y3 y4 y5)) ∧ (∀ y0 y1 y2 y3 y4 y5 y6 y7 y8, LeO (walk_Parts.l3 k y0 y1 y2 y3 y4 y5 y6 y7 y8) (walk_Parts.l3 (k + 1) y0 y1 y2 y3 y4 y5 y6 y7 y8))
  | 0 => ⟨fun _ _ _ _ _ _ r h => by simp [walk_Parts.l0] at h, fun _ _ _ _ _ r h => by simp [walk_Parts.l1] at h, fun _ _ _ _ _ _ r h => by simp [walk_Parts.l2] at h, fun _ _ _ _ _ _ _ _ _ r h => by simp [walk_Parts.l3] at h⟩
  | k + 1 => by
    obtain ⟨ih0, ih1, ih2, ih3⟩ := walk_Parts.mono_l k
    refine ⟨?_, ?_, ?_, ?_⟩
    · intro y0 y1 y2 y3 y4 y5
      unfold walk_Parts.l0
      repeat' first
      | (with_reducible exact ih0 _ _ _ _ _ _)
      | (with_reducible exact ih1 _ _ _ _ _)
      | (with_reducible exact ih2 _ _ _ _ _ _)
      | (with_reducible exact ih3 _ _ _ _ _ _ _ _ _)
      | (with_reducible exact graph_Check.mono _ _ _)
      | (with_reducible exact walk_filled.mono _ _ _)
      | (with_reducible exact LeO.refl _)
      | (with_reducible exact LeO.none _)
      | (with_reducible refine LeO.ite ?_ ?_)
      | (with_reducible refine LeO.bind ?_ (fun _ => ?_))
      | exact ih0 _ _ _ _ _ _
      | exact ih1 _ _ _ _ _
      | exact ih2 _ _ _ _ _ _
      | exact ih3 _ _ _ _ _ _ _ _ _
      | exact graph_Check.mono _ _ _
      | exact walk_filled.mono _ _ _
      | exact LeO.none _
      | refine LeO.ite ?_ ?_
      | refine LeO.bind ?_ (fun _ => ?_)
    · intro y0 y1 y2 y3 y4
      unfold walk_Parts.l1
      repeat' first
      | (with_reducible exact ih0 _ _ _ _ _ _)
      | (with_reducible exact ih1 _ _ _ _ _)
      | (with_reducible exact ih2 _ _ _ _ _ _)
      | (with_reducible exact ih3 _ _ _ _ _ _ _ _ _)
      | (with_reducible exact graph_Check.mono _ _ _)
      | (with_reducible exact walk_filled.mono _ _ _)
      | (with_reducible exact LeO.refl _)
      | (with_reducible exact LeO.none _)
      | (with_reducible refine LeO.ite ?_ ?_)
      | (with_reducible refine LeO.bind ?_ (fun _ => ?_))
      | exact ih0 _ _ _ _ _ _
      | exact ih1 _ _ _ _ _
      | exact ih2 _ _ _ _ _ _
      | exact ih3 _ _ _ _ _ _ _ _ _
      | exact graph_Check.mono _ _ _
      | exact walk_filled.mono _ _ _
      | exact LeO.none _
      | refine LeO.ite ?_ ?_
      | refine LeO.bind ?_ (fun _ => ?_)
    · intro y0 y1 y2 y3 y4 y5
      unfold walk_Parts.l2
      repeat' first
      | (with_reducible exact ih0 _ _ _ _ _ _)
      | (with_reducible exact ih1 _ _ _ _ _)
      | (with_reducible exact ih2 _ _ _ _ _ _)
      | (with_reducible exact ih3 _ _ _ _ _ _ _ _ _)
      | (with_reducible exact graph_Check.mono _ _ _)
      | (with_reducible exact walk_filled.mono _ _ _)
      | (with_reducible exact LeO.refl _)
      | (with_reducible exact LeO.none _)
      | (with_reducible refine LeO.ite ?_ ?_)
      | (with_reducible refine LeO.bind ?_ (fun _ => ?_))
      | exact ih0 _ _ _ _ _ _
      | exact ih1 _ _ _ _ _
      | exact ih2 _ _ _ _ _ _
      | exact ih3 _ _ _ _ _ _ _ _ _
      | exact graph_Check.mono _ _ _
      | exact walk_filled.mono _ _ _
      | exact LeO.none _
      | refine LeO.ite ?_ ?_
      | refine LeO.bind ?_ (fun _ => ?_)
    · intro y0 y1 y2 y3 y4 y5 y6 y7 y8
      unfold walk_Parts.l3
      repeat' first
      | (with_reducible exact ih0 _ _ _ _ _ _)
      | (with_reducible exact ih1 _ _ _ _ _)
      | (with_reducible exact ih2 _ _ _ _ _ _)
      | (with_reducible exact ih3 _ _ _ _ _ _ _ _ _)
      | (with_reducible exact graph_Check.mono _ _ _)
      | (with_reducible exact walk_filled.mono _ _ _)
      | (with_reducible exact LeO.refl _)
      | (with_reducible exact LeO.none _)
      | (with_reducible refine LeO.ite ?_ ?_)
      | (with_reducible refine LeO.bind ?_ (fun _ => ?_))
      | exact ih0 _ _ _ _ _ _
      | exact ih1 _ _ _ _ _
      | exact ih2 _ _ _ _ _ _
      | exact ih3 _ _ _ _ _ _ _ _ _
      | exact graph_Check.mono _ _ _
      | exact walk_filled.mono _ _ _
      | exact LeO.none _
      | refine LeO.ite ?_ ?_
      | refine LeO.bind ?_ (fun _ => ?_)
theorem walk_Parts.mono : ∀ a0 a1 k, LeO (walk_Parts.f k a0 a1) (walk_Parts.f (k + 1) a0 a1) := by
  intro a0 a1 k
  obtain ⟨ih0, ih1, ih2, ih3⟩ := walk_Parts.mono_l k
  unfold walk_Parts.f
  repeat' first
      | (with_reducible exact ih0 _ _ _ _ _ _)
      | (with_reducible exact ih1 _ _ _ _ _)
      | (with_reducible exact ih2 _ _ _ _ _ _)
      | (with_reducible exact ih3 _ _ _ _ _ _ _ _ _)
      | (with_reducible exact graph_Check.mono _ _ _)
      | (with_reducible exact walk_filled.mono _ _ _)
      | (with_reducible exact LeO.refl _)
      | (with_reducible exact LeO.none _)
      | (with_reducible refine LeO.ite ?_ ?_)
      | (with_reducible refine LeO.bind ?_ (fun _ => ?_))
      | exact ih0 _ _ _ _ _ _
      | exact ih1 _ _ _ _ _
      | exact ih2 _ _ _ _ _ _
      | exact ih3 _ _ _ _ _ _ _ _ _
      | exact graph_Check.mono _ _ _
      | exact walk_filled.mono _ _ _
      | exact LeO.none _
      | refine LeO.ite ?_ ?_
      | refine LeO.bind ?_ (fun _ => ?_)
def walk_Parts.T8 : Bool × List (List Nat × List Nat) := (true, [([], []), ([], []), ([1], [1]), ([], []), ([], []), ([4], [4]), ([3, 5], [3, 5]), ([6], [6]), ([], []), ([8], [8]), ([9], [9]), ([7, 10], [7, 10]), ([0, 2, 0, 1, 2, 3, 4, 5, 6, 7, 8, 9, 10, 11], [0, 2]), ([12, 11, 11, 0, 1, 2, 3, 4, 5, 6, 7, 8, 9, 10, 11], [11, 12])])
def walk_Parts.B8 : List Nat := [0, 0, 2, 0, 0, 16, 56, 120, 0, 256, 768, 2040, 4095, 8191]
theorem walk_Parts.tab8 : rtab .any (opsOf Try.f23 8) = walk_Parts.T8 := by kernel_rfl
theorem walk_Parts.bits8 : waitsOk walk_Parts.T8.2 walk_Parts.B8 = true := by kernel_rfl
def walk_Parts.T9 : Bool × List (List Nat × List Nat) := (true, [([], []), ([], []), ([1], [1]), ([], []), ([], []), ([4], [4]), ([3, 5], [3, 5]), ([6], [6]), ([], []), ([8], [8]), ([9], [9]), ([7, 10], [7, 10]), ([0, 2, 0, 1, 2, 3, 4, 5, 6, 7, 8, 9, 10, 11], [0, 2]), ([12, 11, 11, 0, 1, 2, 3, 4, 5, 6, 7, 8, 9, 10, 11], [11, 12])])
def walk_Parts.B9 : List Nat := [0, 0, 2, 0, 0, 16, 56, 120, 0, 256, 768, 2040, 4095, 8191]
theorem walk_Parts.tab9 : rtab .any (opsOf Try.f23 9) = walk_Parts.T9 := by kernel_rfl
theorem walk_Parts.bits9 : waitsOk walk_Parts.T9.2 walk_Parts.B9 = true := by kernel_rfl
set_option maxHeartbeats 8000000 in
set_option maxRecDepth 100000 in
theorem walk_Parts.calls (k : Nat) (a0_0 : Int) (A0_1 : Option Addr) (c0_1 : Nat) (l0_1 : List (S41)) (r1 : List Int) (r2 : Int) (w : World) (hr0_1 : Kd.C k41 w A0_1 l0_1.length l0_1) (hc0_1 : l0_1.length ≤ c0_1) (h : walk_Parts.f k a0_0 l0_1 = some (r1, r2)) :
    Calls Try.prog 23 #[.agg #[.int .i64 a0_0, .slice A0_1 l0_1.length c0_1]] w fun e w' => ∃ v0_ : Value, e = .returned (.tuple #[v0_, .int .i64 r2]) ∧ Kd.R (Kd.int .i64) 3 w' w.heap.size (fun _ => True) v0_ r1 ∧ Below w.heap.size w w' := by
 have hu24 := Try.underlying24
 have hu50 := Try.underlying50
 have hu41 := Try.underlying41
 have HR0_1 := ak hr0_1
 have HC0_1 := ak hc0_1
 clear hr0_1 hc0_1
 have HB := ak (Below.refl w.heap.size w)
 have H : ((graph_Check.f k a0_0 l0_1).bind fun bt383 => (if bt383.1 = 0 then (if 0 ≤ a0_0 then (if (a0_0 : Int).toNat ≤ 11728124029610 then (walk_Parts.l0 k (List.replicate (a0_0 : Int).toNat []) l0_1 (l0_1.length : Int) 0 a0_0 l0_1) else (none)) else (none)) else (some (([] : List Int), bt383.1)))) = some (r1, r2) := h
 clear h
 replace H := Option.bind_eq_some_iff.mp H
 obtain ⟨⟨t383, t384⟩, A20, H⟩ := H
 replace H : (if t383 = 0 then (if 0 ≤ a0_0 then (if (a0_0 : Int).toNat ≤ 11728124029610 then (walk_Parts.l0 k (List.replicate (a0_0 : Int).toNat []) l0_1 (l0_1.length : Int) 0 a0_0 l0_1) else (none)) else (none)) else (some (([] : List Int), t383))) = some (r1, r2) := H
 have A2 := ak A20
 clear A20
 by_cases c3 : t383 = 0
 ·
  rw [if_pos c3] at H
  have c3b0 : (t383 == 0) = true := beq_iff_eq.mpr c3
  have c3b1 : (t383 != 0) = false := bne_eq_false_iff_eq.mpr c3
  clear c3
  by_cases c4 : 0 ≤ a0_0
  rotate_left
  ·
   rw [if_neg c4] at H
   exact absurd H (by simp)
  rw [if_pos c4] at H
  have c4b0 := eq_true c4
  have c4b1 : decide (0 ≤ a0_0) = true := decide_eq_true c4
  clear c4
  by_cases c5 : (a0_0 : Int).toNat ≤ 11728124029610
  rotate_left
  ·
   rw [if_neg c5] at H
   exact absurd H (by simp)
  rw [if_pos c5] at H
  have c5b0 := eq_true c5
  have c5b1 : decide ((a0_0 : Int).toNat ≤ 11728124029610) = true := decide_eq_true c5
  clear c5
  obtain ⟨y386, hy386⟩ : ∃ y_ : List (List Int), y_ = (List.replicate (a0_0 : Int).toNat []) := ⟨_, rfl⟩
  replace H : (walk_Parts.l0 k y386 l0_1 (l0_1.length : Int) 0 a0_0 l0_1) = some (r1, r2) := by first | (rw [hy386]; exact H) | exact H
  have Ny386 := ak hy386
  clear hy386
  have H' := ak H
  clear H
  go_enter Try.func23, Try.ntmps23
  go_wp2_with (first | ((with_reducible refine gate_dst (N := 1) rfl ?_); refine box_event ?hg (N := 1) ?hd (cs := #[.int .i64 a0_0, .slice A0_1 l0_1.length c0_1]) (t := 24) ?hr ?_; (case hd => rfl); (case hg => rfl); (case hr => first | (go_simp; done) | (go_simp; rfl)); intro gb382 hg w6 hbox hb; have n0_ := ak (below_step lb hb); have n1_ := ak (hbox); have n2_ := ak ((by rw [hg]; exact (below_size lb) : w.heap.size ≤ gb382)); have n3_ := ak ((by rw [hg]; exact (below_size lb) : w.heap.size ≤ gb382)); clear HB; have HB := n0_; have BK382 := n1_; have GW382 := n2_; have GE382 := n3_; clear n0_ n1_ n2_ n3_; clear hb hbox hg; have hcz7_0 : w6.cell? ⟨gb382, 0, none⟩ = some (.int .i64 a0_0) := (blk_cell BK382.out 0).trans rfl; have hcz7_1 : w6.cell? ⟨gb382, 1, none⟩ = some (.slice A0_1 l0_1.length c0_1) := (blk_cell BK382.out 1).trans rfl; have hfz7_0 := blk_frozen BK382.out 0; have hfz7_1 := blk_frozen BK382.out 1) | ((with_reducible refine gate_callee (f := 29) rfl ?_); refine goesL_ (some 16) rfl rfl Try.func29 (by kernel_rfl) rfl #[.agg #[.int .i64 a0_0, .slice A0_1 l0_1.length c0_1]] rfl (by (try simp only [List.map_toArray, List.map_cons, List.map_nil]); first | done | rfl | (simp only [List.length_drop, List.length_take]; rfl)) ?_; (with_reducible refine (graph_Check.calls k a0_0 _ _ l0_1 t383 t384 _ ?side1 ?side2 A2.out).mono ?_); (case side1 => repeat (first | exact (Kd.C_below HR0_1.out HB.out) | (with_reducible refine Kd.C_alloc ?_ _) | (with_reducible refine Kd.C_drewN ?_ _) | (with_reducible refine Kd.C_drew ?_))); (case side2 => exact HC0_1.out); rintro e w8 ⟨rfl, hb⟩; refine ⟨_, rfl, ?_⟩; have n0_ := ak (blk_below (bx BK382.out) hb); have n1_ := ak (below_step lb hb); clear BK382; clear HB; have BK382 := n0_; have HB := n1_; clear n0_ n1_; (try clear hb); (try clear hb2); (try clear hk); (try clear hi)) | ((with_reducible refine gate_dst (N := 4) rfl ?_); refine box_event ?hg (N := 4) ?hd (cs := #[.int .i64 0, .int .i64 0]) (t := 50) ?hr ?_; (case hd => rfl); (case hg => rfl); (case hr => first | (go_simp; done) | (go_simp; rfl)); intro gb385 hg w9 hbox hb; have n0_ := ak (blk_below (bx BK382.out) hb); have n1_ := ak (below_step lb hb); have n2_ := ak (hbox); have n3_ := ak ((by rw [hg]; exact (below_size lb) : w.heap.size ≤ gb385)); have n4_ := ak ((by rw [hg]; exact (below_size lb) : w.heap.size ≤ gb385)); have n5_ := ak ((by rw [hg]; exact Nat.ne_of_lt (blk_lt (g := gb382) (o := .cells #[.int .i64 a0_0, .slice A0_1 l0_1.length c0_1] 24 (0, 0)) (bx BK382.out)) : gb382 ≠ gb385)); have n6_ := ak ((by rw [hg]; exact Nat.ne_of_gt (blk_lt (g := gb382) (o := .cells #[.int .i64 a0_0, .slice A0_1 l0_1.length c0_1] 24 (0, 0)) (bx BK382.out)) : gb385 ≠ gb382)); clear BK382; clear HB; have BK382 := n0_; have HB := n1_; have BK385 := n2_; have GW385 := n3_; have GE385 := n4_; have NB382_385 := n5_; have NB385_382 := n6_; clear n0_ n1_ n2_ n3_ n4_ n5_ n6_; clear hb hbox hg; have hnb10 := NB385_382.out; have hnc10 := NB382_385.out; have hcz11_0 : w9.cell? ⟨gb385, 0, none⟩ = some (.int .i64 0) := (blk_cell BK385.out 0).trans rfl; have hcz11_1 : w9.cell? ⟨gb385, 1, none⟩ = some (.int .i64 0) := (blk_cell BK385.out 1).trans rfl; have hfz11_0 := blk_frozen BK385.out 0; have hfz11_1 := blk_frozen BK385.out 1; have hcz12_0 : w9.cell? ⟨gb382, 0, none⟩ = some (.int .i64 a0_0) := (blk_cell BK382.out 0).trans rfl; have hcz12_1 : w9.cell? ⟨gb382, 1, none⟩ = some (.slice A0_1 l0_1.length c0_1) := (blk_cell BK382.out 1).trans rfl; have hfz12_0 := blk_frozen BK382.out 0; have hfz12_1 := blk_frozen BK382.out 1) | ((with_reducible refine gate_dst (N := 24) rfl ?_); refine Kd.S_make (Kd.slice 3 (Kd.int .i64)) _ 26 rfl (N := 24) rfl 52 _ _ rfl a0_0 rfl rfl Try.underlying52 (.slice none 0 0) 24 info26 rfl (by decide) (by omega) [] (ok := fun _ => True) (okp := fun _ => True) ⟨_, rfl, Kd.R_nil _ _ _ _ _⟩ (fun _ hk => hk) trivial (oda) (Nat.le_trans (Nat.mul_le_mul_right _ (oda : a0_0.toNat ≤ 11728124029610)) (by omega)) (Below.refl _ _) (Nat.le_refl _) ?_; intro v387 w13 ho14 hb hg_ hnew_; clear hg_ hnew_; (first | rw [← Ny386.out] at ho14 | (simp only [Int.reduceToNat] at ho14; rw [← Ny386.out] at ho14)); have n0_ := ak (Kd.S_lower ho14 (below_size lb)); have n1_ := ak (blk_below (g := gb382) (o := .cells #[.int .i64 a0_0, .slice A0_1 l0_1.length c0_1] 24 (0, 0)) (by (with_reducible repeat (first | refine blk_drewN ?_ _ | refine blk_drew ?_ | refine blk_alloc ?_ _)); refine blk_far ?_ NB382_385.out _; (with_reducible repeat (first | refine blk_drewN ?_ _ | refine blk_drew ?_ | refine blk_alloc ?_ _)); refine blk_far ?_ NB382_385.out _; exact bx BK382.out) hb); have n2_ := ak (blk_below (g := gb385) (o := .cells #[.int .i64 t383, .int .i64 t384] 50 (0, 0)) (by (with_reducible repeat (first | refine blk_drewN ?_ _ | refine blk_drew ?_ | refine blk_alloc ?_ _)); refine blk_put (cs := #[.int .i64 t383, .int .i64 0]) ?_ 1 _ rfl; (with_reducible repeat (first | refine blk_drewN ?_ _ | refine blk_drew ?_ | refine blk_alloc ?_ _)); refine blk_put (cs := #[.int .i64 0, .int .i64 0]) ?_ 0 _ rfl; exact bx BK385.out) hb); have n3_ := ak (below_step lb hb); clear BK382; clear BK385; clear HB; have HO388 := n0_; have BK382 := n1_; have BK385 := n2_; have HB := n3_; clear n0_ n1_ n2_ n3_; clear hb ho14; have hcz15_0 : w13.cell? ⟨gb382, 0, none⟩ = some (.int .i64 a0_0) := (blk_cell BK382.out 0).trans rfl; have hcz15_1 : w13.cell? ⟨gb382, 1, none⟩ = some (.slice A0_1 l0_1.length c0_1) := (blk_cell BK382.out 1).trans rfl; have hfz15_0 := blk_frozen BK382.out 0; have hfz15_1 := blk_frozen BK382.out 1))
  go_loopg [28] k (fun kq v28 w' => ∃ (x5_1 : List (List Int)) (x28_1 : Int), v28 = .int .i64 x28_1 ∧ Aside0 (walk_Parts.l0 kq x5_1 l0_1 (l0_1.length : Int) x28_1 a0_0 l0_1 = some (r1, r2)) ∧ Aside0 (kq ≤ k) ∧ Aside0 (Kd.S (Kd.slice 3 (Kd.int .i64)) 26 w' w.heap.size (fun _ => True) v387 x5_1) ∧ Aside0 (w'.heap[gb382]? = some (.cells #[.int .i64 a0_0, (.slice A0_1 l0_1.length c0_1)] 24 (0, 0))) ∧ Aside0 (w'.heap[gb385]? = some (.cells #[.int .i64 t383, .int .i64 t384] 50 (0, 0))) ∧ Aside0 (Below w.heap.size w w'))
  case atStart => exact ⟨(y386), (0), (by first | rfl | (simp [*]; done)), H', ⟨Nat.le_refl _⟩, ⟨sx HO388.out⟩, ⟨bx BK382.out⟩, ⟨bx BK385.out⟩, ⟨lb⟩⟩
  case round =>
   clear H'
   try clear c1; try clear c2; try clear p2; try clear c3; try clear c3b0; try clear c3b1; try clear c4; try clear c4b0; try clear c4b1; try clear c5; try clear c5b0; try clear c5b1; try clear c10; try clear hcz11_0; try clear hcz11_1; try clear hcz12_0; try clear hcz12_1; try clear hcz15_0; try clear hcz15_1; try clear hcz7_0; try clear hcz7_1; try clear hfz11_0; try clear hfz11_1; try clear hfz12_0; try clear hfz12_1; try clear hfz15_0; try clear hfz15_1; try clear hfz7_0; try clear hfz7_1
   obtain ⟨x5_1, x28_1, rfl, HA, HK1, HO_5, BK382, BK385, HB⟩ := hrel
   cases gk with
   | zero => exact absurd HA.out (by simp [walk_Parts.l0])
   | succ k1 =>
    have H := HA.out
    clear HA
    simp only [walk_Parts.l0] at H
    by_cases c16 : x28_1 < (l0_1.length : Int)
    ·
     rw [if_pos c16] at H
     have c16b0 : decide (x28_1 < (l0_1.length : Int)) = true := decide_eq_true c16
     clear c16
     by_cases c17 : 0 ≤ x28_1
     rotate_left
     ·
      rw [if_neg c17] at H
      exact absurd H (by simp)
     rw [if_pos c17] at H
     have c17b0 : decide (0 ≤ x28_1) = true := decide_eq_true c17
     clear c17
     by_cases c18 : x28_1 < (l0_1.length : Int)
     rotate_left
     ·
      rw [if_neg c18] at H
      exact absurd H (by simp)
     rw [if_pos c18] at H
     have c18b0 : decide (x28_1 < (l0_1.length : Int)) = true := decide_eq_true c18
     clear c18
     by_cases c19 : 0 ≤ ((rd_T41 l0_1 x28_1).f0)
     rotate_left
     ·
      rw [if_neg c19] at H
      exact absurd H (by simp)
     rw [if_pos c19] at H
     have c19b0 : decide (0 ≤ ((rd_T41 l0_1 x28_1).f0)) = true := decide_eq_true c19
     clear c19
     by_cases c20 : ((rd_T41 l0_1 x28_1).f0) < (x5_1.length : Int)
     rotate_left
     ·
      rw [if_neg c20] at H
      exact absurd H (by simp)
     rw [if_pos c20] at H
     have c20b0 : decide (((rd_T41 l0_1 x28_1).f0) < (x5_1.length : Int)) = true := decide_eq_true c20
     clear c20
     by_cases c21 : (rd_L2 x5_1 ((rd_T41 l0_1 x28_1).f0)).length < 17592186044416
     rotate_left
     ·
      rw [if_neg c21] at H
      exact absurd H (by simp)
     rw [if_pos c21] at H
     have LMc21 := ak c21
     clear c21
     obtain ⟨y392, hy392⟩ : ∃ y_ : List Int, y_ = ((rd_L2 x5_1 ((rd_T41 l0_1 x28_1).f0)) ++ [(rd_T41 l0_1 x28_1).f1]) := ⟨_, rfl⟩
     replace H : ((some (x5_1.set (((rd_T41 l0_1 x28_1).f0) : Int).toNat y392 : List (List Int))).bind fun y395 => (if 0 ≤ ((rd_T41 l0_1 x28_1).f1) then (if ((rd_T41 l0_1 x28_1).f1) < (x5_1.length : Int) then (if (rd_L2 y395 ((rd_T41 l0_1 x28_1).f1)).length < 17592186044416 then (walk_Parts.l0 k1 (y395.set (((rd_T41 l0_1 x28_1).f1) : Int).toNat ((rd_L2 y395 ((rd_T41 l0_1 x28_1).f1)) ++ [(rd_T41 l0_1 x28_1).f0])) l0_1 (l0_1.length : Int) (wrap64 (x28_1 + 1)) a0_0 l0_1) else (none)) else (none)) else (none))) = some (r1, r2) := by first | (rw [hy392]; exact H) | exact H
     have Ny392 := ak hy392
     clear hy392
     obtain ⟨y395, hy395⟩ : ∃ y_ : List (List Int), y_ = (x5_1.set (((rd_T41 l0_1 x28_1).f0) : Int).toNat y392) := ⟨_, rfl⟩
     replace H : (if 0 ≤ ((rd_T41 l0_1 x28_1).f1) then (if ((rd_T41 l0_1 x28_1).f1) < (x5_1.length : Int) then (if (rd_L2 y395 ((rd_T41 l0_1 x28_1).f1)).length < 17592186044416 then (walk_Parts.l0 k1 (y395.set (((rd_T41 l0_1 x28_1).f1) : Int).toNat ((rd_L2 y395 ((rd_T41 l0_1 x28_1).f1)) ++ [(rd_T41 l0_1 x28_1).f0])) l0_1 (l0_1.length : Int) (wrap64 (x28_1 + 1)) a0_0 l0_1) else (none)) else (none)) else (none)) = some (r1, r2) := by first | (rw [hy395]; exact H) | exact H
     have Ny395 := ak hy395
     clear hy395
     by_cases c23 : 0 ≤ ((rd_T41 l0_1 x28_1).f1)
     rotate_left
     ·
      rw [if_neg c23] at H
      exact absurd H (by simp)
     rw [if_pos c23] at H
     have c23b0 : decide (0 ≤ ((rd_T41 l0_1 x28_1).f1)) = true := decide_eq_true c23
     clear c23
     by_cases c24 : ((rd_T41 l0_1 x28_1).f1) < (x5_1.length : Int)
     rotate_left
     ·
      rw [if_neg c24] at H
      exact absurd H (by simp)
     rw [if_pos c24] at H
     have c24b0 : decide (((rd_T41 l0_1 x28_1).f1) < (x5_1.length : Int)) = true := decide_eq_true c24
     clear c24
     by_cases c25 : (rd_L2 y395 ((rd_T41 l0_1 x28_1).f1)).length < 17592186044416
     rotate_left
     ·
      rw [if_neg c25] at H
      exact absurd H (by simp)
     rw [if_pos c25] at H
     have LMc25 := ak c25
     clear c25
     obtain ⟨y397, hy397⟩ : ∃ y_ : List Int, y_ = ((rd_L2 y395 ((rd_T41 l0_1 x28_1).f1)) ++ [(rd_T41 l0_1 x28_1).f0]) := ⟨_, rfl⟩
     replace H : (walk_Parts.l0 k1 (y395.set (((rd_T41 l0_1 x28_1).f1) : Int).toNat y397) l0_1 (l0_1.length : Int) (wrap64 (x28_1 + 1)) a0_0 l0_1) = some (r1, r2) := by first | (rw [hy397]; exact H) | exact H
     have Ny397 := ak hy397
     clear hy397
     obtain ⟨y400, hy400⟩ : ∃ y_ : List (List Int), y_ = (y395.set (((rd_T41 l0_1 x28_1).f1) : Int).toNat y397) := ⟨_, rfl⟩
     replace H : (walk_Parts.l0 k1 y400 l0_1 (l0_1.length : Int) (wrap64 (x28_1 + 1)) a0_0 l0_1) = some (r1, r2) := by first | (rw [hy400]; exact H) | exact H
     have Ny400 := ak hy400
     clear hy400
     have H' := ak H
     clear H
     have p389 : 0 ≤ (x28_1 : Int) := oda
     have q389 : x28_1 < (l0_1.length : Int) := oda
     obtain ⟨ad389, e389, hx389_0, hx389_1, hx389_2, hx389_3⟩ := at_T41 HR0_1.out x28_1 p389 q389
     cases e389
     (try replace hx389_0 := (HB.out.cell (World.block_lt_of_cell? w _ hx389_0)).trans hx389_0)
     (try replace hx389_1 := (HB.out.cell (World.block_lt_of_cell? w _ hx389_1)).trans hx389_1)
     (try replace hx389_2 := (HB.out.cell (World.block_lt_of_cell? w _ hx389_2)).trans hx389_2)
     (try replace hx389_3 := (HB.out.cell (World.block_lt_of_cell? w _ hx389_3)).trans hx389_3)
     replace p389 := eq_true p389
     replace q389 := eq_true q389
     try go_wp2_with (first | ((with_reducible refine gate_dst (N := 7) rfl ?_); refine box_event ?hg (N := 7) ?hd (cs := #[.int .i64 0, .int .i64 0, .int .i64 0, .int .i64 0]) (t := 41) ?hr ?_; (case hd => rfl); (case hg => rfl); (case hr => first | (go_simp; done) | (go_simp; rfl)); intro gb390 hg w27 hbox hb; have n0_ := ak (Kd.S_below (sx HO_5.out) hb); have n1_ := ak (blk_below (bx BK382.out) hb); have n2_ := ak (blk_below (bx BK385.out) hb); have n3_ := ak (below_step lb hb); have n4_ := ak (hbox); have n5_ := ak ((by rw [hg]; exact (below_size lb) : w.heap.size ≤ gb390)); have n6_ := ak ((by rw [hg]; exact (below_size lb) : w.heap.size ≤ gb390)); have n7_ := ak ((by rw [hg]; exact Nat.ne_of_lt (blk_lt (g := gb382) (o := .cells #[.int .i64 a0_0, .slice (some ad389) l0_1.length c0_1] 24 (0, 0)) (bx BK382.out)) : gb382 ≠ gb390)); have n8_ := ak ((by rw [hg]; exact Nat.ne_of_gt (blk_lt (g := gb382) (o := .cells #[.int .i64 a0_0, .slice (some ad389) l0_1.length c0_1] 24 (0, 0)) (bx BK382.out)) : gb390 ≠ gb382)); have n9_ := ak ((by rw [hg]; exact Nat.ne_of_lt (blk_lt (g := gb385) (o := .cells #[.int .i64 t383, .int .i64 t384] 50 (0, 0)) (bx BK385.out)) : gb385 ≠ gb390)); have n10_ := ak ((by rw [hg]; exact Nat.ne_of_gt (blk_lt (g := gb385) (o := .cells #[.int .i64 t383, .int .i64 t384] 50 (0, 0)) (bx BK385.out)) : gb390 ≠ gb385)); clear HO_5; clear BK382; clear BK385; clear HB; have HO_5 := n0_; have BK382 := n1_; have BK385 := n2_; have HB := n3_; have BK390 := n4_; have GW390 := n5_; have GE390 := n6_; have NB382_390 := n7_; have NB390_382 := n8_; have NB385_390 := n9_; have NB390_385 := n10_; clear n0_ n1_ n2_ n3_ n4_ n5_ n6_ n7_ n8_ n9_ n10_; clear hb hbox hg; have hnb28 := NB390_382.out; have hnc28 := NB382_390.out; have hnb29 := NB390_385.out; have hnc29 := NB385_390.out; have hcz30_0 : w27.cell? ⟨gb390, 0, none⟩ = some (.int .i64 0) := (blk_cell BK390.out 0).trans rfl; have hcz30_1 : w27.cell? ⟨gb390, 1, none⟩ = some (.int .i64 0) := (blk_cell BK390.out 1).trans rfl; have hcz30_2 : w27.cell? ⟨gb390, 2, none⟩ = some (.int .i64 0) := (blk_cell BK390.out 2).trans rfl; have hcz30_3 : w27.cell? ⟨gb390, 3, none⟩ = some (.int .i64 0) := (blk_cell BK390.out 3).trans rfl; have hfz30_0 := blk_frozen BK390.out 0; have hfz30_1 := blk_frozen BK390.out 1; have hfz30_2 := blk_frozen BK390.out 2; have hfz30_3 := blk_frozen BK390.out 3))
     have n0_ : Aside0 (Kd.S (Kd.slice 3 (Kd.int .i64)) 26 ((((w27.setCell ⟨gb390, 0, none⟩ (.int .i64 ((rd_T41 l0_1 x28_1).f0))).setCell ⟨gb390, 1, none⟩ (.int .i64 ((rd_T41 l0_1 x28_1).f1))).setCell ⟨gb390, 2, none⟩ (.int .i64 ((rd_T41 l0_1 x28_1).f2))).setCell ⟨gb390, 3, none⟩ (.int .i64 ((rd_T41 l0_1 x28_1).f3))) w.heap.size (fun _ => True) v387 x5_1) := ⟨by exact sx (Kd.S_mono (Kd.S_far (p := ⟨gb390, 3, none⟩) (Kd.S_far (p := ⟨gb390, 2, none⟩) (Kd.S_far (p := ⟨gb390, 1, none⟩) (Kd.S_far (p := ⟨gb390, 0, none⟩) (Kd.S_types HO_5.out BK390.out (by decide)) (fun _ hk => hk.2) (.int .i64 ((rd_T41 l0_1 x28_1).f0))) (fun _ hk => hk.2) (.int .i64 ((rd_T41 l0_1 x28_1).f1))) (fun _ hk => hk.2) (.int .i64 ((rd_T41 l0_1 x28_1).f2))) (fun _ hk => hk.2) (.int .i64 ((rd_T41 l0_1 x28_1).f3))) (fun _ hk => trivial))⟩
     have n1_ : Aside0 (((((w27.setCell ⟨gb390, 0, none⟩ (.int .i64 ((rd_T41 l0_1 x28_1).f0))).setCell ⟨gb390, 1, none⟩ (.int .i64 ((rd_T41 l0_1 x28_1).f1))).setCell ⟨gb390, 2, none⟩ (.int .i64 ((rd_T41 l0_1 x28_1).f2))).setCell ⟨gb390, 3, none⟩ (.int .i64 ((rd_T41 l0_1 x28_1).f3))).heap[gb382]? = some (.cells #[.int .i64 a0_0, .slice (some ad389) l0_1.length c0_1] 24 (0, 0))) := ⟨by (with_reducible repeat (first | refine blk_drewN ?_ _ | refine blk_drew ?_ | refine blk_alloc ?_ _)); refine blk_far ?_ NB382_390.out _; (with_reducible repeat (first | refine blk_drewN ?_ _ | refine blk_drew ?_ | refine blk_alloc ?_ _)); refine blk_far ?_ NB382_390.out _; (with_reducible repeat (first | refine blk_drewN ?_ _ | refine blk_drew ?_ | refine blk_alloc ?_ _)); refine blk_far ?_ NB382_390.out _; (with_reducible repeat (first | refine blk_drewN ?_ _ | refine blk_drew ?_ | refine blk_alloc ?_ _)); refine blk_far ?_ NB382_390.out _; exact bx BK382.out⟩
     have n2_ : Aside0 (((((w27.setCell ⟨gb390, 0, none⟩ (.int .i64 ((rd_T41 l0_1 x28_1).f0))).setCell ⟨gb390, 1, none⟩ (.int .i64 ((rd_T41 l0_1 x28_1).f1))).setCell ⟨gb390, 2, none⟩ (.int .i64 ((rd_T41 l0_1 x28_1).f2))).setCell ⟨gb390, 3, none⟩ (.int .i64 ((rd_T41 l0_1 x28_1).f3))).heap[gb385]? = some (.cells #[.int .i64 t383, .int .i64 t384] 50 (0, 0))) := ⟨by (with_reducible repeat (first | refine blk_drewN ?_ _ | refine blk_drew ?_ | refine blk_alloc ?_ _)); refine blk_far ?_ NB385_390.out _; (with_reducible repeat (first | refine blk_drewN ?_ _ | refine blk_drew ?_ | refine blk_alloc ?_ _)); refine blk_far ?_ NB385_390.out _; (with_reducible repeat (first | refine blk_drewN ?_ _ | refine blk_drew ?_ | refine blk_alloc ?_ _)); refine blk_far ?_ NB385_390.out _; (with_reducible repeat (first | refine blk_drewN ?_ _ | refine blk_drew ?_ | refine blk_alloc ?_ _)); refine blk_far ?_ NB385_390.out _; exact bx BK385.out⟩
     have n3_ : Aside0 (((((w27.setCell ⟨gb390, 0, none⟩ (.int .i64 ((rd_T41 l0_1 x28_1).f0))).setCell ⟨gb390, 1, none⟩ (.int .i64 ((rd_T41 l0_1 x28_1).f1))).setCell ⟨gb390, 2, none⟩ (.int .i64 ((rd_T41 l0_1 x28_1).f2))).setCell ⟨gb390, 3, none⟩ (.int .i64 ((rd_T41 l0_1 x28_1).f3))).heap[gb390]? = some (.cells #[.int .i64 ((rd_T41 l0_1 x28_1).f0), .int .i64 ((rd_T41 l0_1 x28_1).f1), .int .i64 ((rd_T41 l0_1 x28_1).f2), .int .i64 ((rd_T41 l0_1 x28_1).f3)] 41 (0, 0))) := ⟨by (with_reducible repeat (first | refine blk_drewN ?_ _ | refine blk_drew ?_ | refine blk_alloc ?_ _)); refine blk_put (cs := #[.int .i64 ((rd_T41 l0_1 x28_1).f0), .int .i64 ((rd_T41 l0_1 x28_1).f1), .int .i64 ((rd_T41 l0_1 x28_1).f2), .int .i64 0]) ?_ 3 _ rfl; (with_reducible repeat (first | refine blk_drewN ?_ _ | refine blk_drew ?_ | refine blk_alloc ?_ _)); refine blk_put (cs := #[.int .i64 ((rd_T41 l0_1 x28_1).f0), .int .i64 ((rd_T41 l0_1 x28_1).f1), .int .i64 0, .int .i64 0]) ?_ 2 _ rfl; (with_reducible repeat (first | refine blk_drewN ?_ _ | refine blk_drew ?_ | refine blk_alloc ?_ _)); refine blk_put (cs := #[.int .i64 ((rd_T41 l0_1 x28_1).f0), .int .i64 0, .int .i64 0, .int .i64 0]) ?_ 1 _ rfl; (with_reducible repeat (first | refine blk_drewN ?_ _ | refine blk_drew ?_ | refine blk_alloc ?_ _)); refine blk_put (cs := #[.int .i64 0, .int .i64 0, .int .i64 0, .int .i64 0]) ?_ 0 _ rfl; exact bx BK390.out⟩
     have n4_ : Aside0 (Below w.heap.size w ((((w27.setCell ⟨gb390, 0, none⟩ (.int .i64 ((rd_T41 l0_1 x28_1).f0))).setCell ⟨gb390, 1, none⟩ (.int .i64 ((rd_T41 l0_1 x28_1).f1))).setCell ⟨gb390, 2, none⟩ (.int .i64 ((rd_T41 l0_1 x28_1).f2))).setCell ⟨gb390, 3, none⟩ (.int .i64 ((rd_T41 l0_1 x28_1).f3)))) := ⟨lb⟩
     (try clear HO_5)
     (try clear BK382)
     (try clear BK385)
     (try clear BK390)
     (try clear HB)
     generalize ((((w27.setCell ⟨gb390, 0, none⟩ (.int .i64 ((rd_T41 l0_1 x28_1).f0))).setCell ⟨gb390, 1, none⟩ (.int .i64 ((rd_T41 l0_1 x28_1).f1))).setCell ⟨gb390, 2, none⟩ (.int .i64 ((rd_T41 l0_1 x28_1).f2))).setCell ⟨gb390, 3, none⟩ (.int .i64 ((rd_T41 l0_1 x28_1).f3))) = w31 at n0_ n1_ n2_ n3_ n4_ ⊢
     have HO_5 := n0_
     have BK382 := n1_
     have BK385 := n2_
     have BK390 := n3_
     have HB := n4_
     clear n0_ n1_ n2_ n3_ n4_
     have n0_ := ak (Kd.S_drew HO_5.out)
     have n1_ := ak (blk_drew BK382.out)
     have n2_ := ak (blk_drew BK385.out)
     have n3_ := ak (blk_drew BK390.out)
     have n4_ := ak (below_drew1 HB.out)
     clear HO_5
     clear BK382
     clear BK385
     clear BK390
     clear HB
     have HO_5 := n0_
     have BK382 := n1_
     have BK385 := n2_
     have BK390 := n3_
     have HB := n4_
     clear n0_ n1_ n2_ n3_ n4_
     obtain ⟨Ao33, co33, eo33⟩ := Kd.S_slice HO_5.out
     (first | subst eo33 | (injection eo33 with f1_ f2_ f3_; have f4_ := f1_.symm; have f5_ := f3_.symm; clear f1_ f2_ f3_; subst f4_; subst f5_))
     have p391 : 0 ≤ (((rd_T41 l0_1 x28_1).f0) : Int) := oda
     have q391 : ((rd_T41 l0_1 x28_1).f0) < (x5_1.length : Int) := oda
     obtain ⟨ad391, A391_0, c391_0, e391, hx391_0, hl391_0, hi391_0⟩ := at_L2 (Kd.S_reads' HO_5.out).2.2 ((rd_T41 l0_1 x28_1).f0) p391 q391
     cases e391
     obtain ⟨ce391, hce391, hMe391, hcc391⟩ := Kd.S_get HO_5.out [] ((rd_T41 l0_1 x28_1).f0) p391 (by first | exact q391 | exact oda | (have e_ := (Kd.S_reads' HO_5.out).1; omega))
     obtain ⟨ve391_0, rfl, ge391_0⟩ := hMe391
     have hv391_0 := hcc391 0 _ rfl
     rw [Nat.add_zero, show ((Kd.slice 3 (Kd.int .i64))).sz = 1 from rfl, Nat.mul_one] at hv391_0
     replace hv391_0 := Option.some.inj (hv391_0.symm.trans hx391_0)
     rw [hv391_0] at ge391_0
     have HL391_0 := ak (show Kd.R (Kd.int .i64) 3 _ _ _ _ (rd_L2 x5_1 ((rd_T41 l0_1 x28_1).f0)) from ge391_0)
     clear hv391_0 ge391_0
     have HX391_0 := ak hx391_0
     clear hcc391 hce391
     have HR391_0 := ak hi391_0
     have HC391_0 := ak hl391_0
     clear hi391_0 hl391_0
     replace p391 := eq_true p391
     replace q391 := eq_true q391
     obtain ⟨go34, co34, eo34, gb34, gl34, cl34, HG34⟩ := Kd.S_form HO_5.out (by have h_ : (((rd_T41 l0_1 x28_1).f0) : Int) < ((x5_1.length : Int) : Int) := oda; have h2_ : 0 ≤ (((rd_T41 l0_1 x28_1).f0) : Int) := (oda); omega)
     (first | cases eo34 | (injection eo34 with ea_ en_ ec_; (first | subst ea_ | (injection ea_ with ea_; subst ea_)); subst ec_; clear en_))
     have GB34 := ak gb34
     have GG34 := ak HG34
     clear gb34 gl34 HG34
     (first | simp only [add_plain] at hx391_0 | skip)
     obtain ⟨oki34, ce34, hcl34, hM34, hcc34, _, _, hH34⟩ := Kd.S_elem HO_5.out [] (((rd_T41 l0_1 x28_1).f0) : Int) (oda) (by have h_ : (((rd_T41 l0_1 x28_1).f0) : Int) < ((x5_1.length : Int) : Int) := oda; first | exact h_ | (have e_ := (Kd.S_reads' HO_5.out).1; omega) | simpa using h_)
     obtain ⟨ve34_0, rfl, ge34_0⟩ := hM34
     have hv34 := hcc34 0 _ rfl
     have hX34 := HX391_0.out
     (try simp only [add_plain] at hX34)
     (try simp only [Nat.add_zero] at hv34)
     (try rw [show ((Kd.slice 3 (Kd.int .i64))).sz = 1 from rfl, Nat.mul_one] at hv34)
     replace hv34 := Option.some.inj (hv34.symm.trans hX34)
     subst hv34
     clear hX34 hcc34 hcl34
     have UU34 := ak (show Kd.R (Kd.int .i64) 3 _ w.heap.size oki34 (.slice A391_0 (rd_L2 x5_1 ((rd_T41 l0_1 x28_1).f0)).length c391_0) (rd_L2 x5_1 ((rd_T41 l0_1 x28_1).f0)) from ge34_0)
     have HH34 := ak hH34
     have HN34 := ak (Kd.S_reads' HO_5.out).1
     clear hH34 ge34_0
     refine start_ (n := 14) (S := fun w' => w'.cell? ⟨gb390, 0, none⟩ = some (.int .i64 ((rd_T41 l0_1 x28_1).f0)) ∧ w'.cell? ⟨gb390, 1, none⟩ = some (.int .i64 ((rd_T41 l0_1 x28_1).f1)) ∧ w'.cell? ⟨gb390, 2, none⟩ = some (.int .i64 ((rd_T41 l0_1 x28_1).f2)) ∧ w'.cell? ⟨gb390, 3, none⟩ = some (.int .i64 ((rd_T41 l0_1 x28_1).f3)) ∧ w'.cell? ⟨go34, (((rd_T41 l0_1 x28_1).f0)).toNat, none⟩ = some (.slice A391_0 (rd_L2 x5_1 ((rd_T41 l0_1 x28_1).f0)).length c391_0)) (ds := [13]) #[false, false, false, false, false, false, false, false, false, false, false, false, false, false] (by kernel_rfl) rfl rfl ⟨(blk_cell BK390.out 0).trans rfl, (blk_cell BK390.out 1).trans rfl, (blk_cell BK390.out 2).trans rfl, (blk_cell BK390.out 3).trans rfl, hx391_0⟩ (fun hHeld => ?_); refine with_tabW walk_Parts.tab8 walk_Parts.bits8 (fun HT_ HW_ => ?_)
     generalize w31.drew = w32 at HO_5 BK382 BK385 BK390 HB GG34 HH34 HL391_0 HR391_0 HX391_0 UU34 hx391_0 hHeld ⊢
     refine pure_ (i := 0) (N := some 32) (v := ?_) (a' := ?_) #[true, false, false, false, false, false, false, false, false, false, false, false, false, false] rfl rfl (any_of HT_.out (by kernel_rfl)) (fun _ _ _ h => h) (Or.inl ⟨by rfl, ?_⟩) ?_ ?_; rotate_left; intro w'; go_simp; with_reducible rfl; rotate_left; simp only [Act.put, List.setIfInBounds_toArray, List.set_cons_zero, List.set_cons_succ, i64_w, i32_w]; rfl
     refine pure_ (i := 1) (N := some 33) (v := ?_) (a' := ?_) #[true, true, false, false, false, false, false, false, false, false, false, false, false, false] rfl rfl (any_of HT_.out (by kernel_rfl)) (fun _ _ _ h => h) (Or.inl ⟨by rfl, ?_⟩) ?_ ?_; rotate_left; intro w'; go_simp; with_reducible rfl; rotate_left; simp only [Act.put, List.setIfInBounds_toArray, List.set_cons_zero, List.set_cons_succ, i64_w, i32_w]; rfl
     refine pure_ (i := 3) (N := some 35) (v := ?_) (a' := ?_) #[true, true, false, true, false, false, false, false, false, false, false, false, false, false] rfl rfl (any_of HT_.out (by kernel_rfl)) (fun _ _ _ h => h) (Or.inl ⟨by rfl, ?_⟩) ?_ ?_; rotate_left; intro w'; go_simp; with_reducible rfl; rotate_left; simp only [Act.put, List.setIfInBounds_toArray, List.set_cons_zero, List.set_cons_succ, i64_w, i32_w]; rfl
     refine pure_ (i := 4) (N := some 36) (v := ?_) (a' := ?_) #[true, true, false, true, true, false, false, false, false, false, false, false, false, false] rfl rfl (any_of HT_.out (by kernel_rfl)) (fun _ _ _ h => h) (Or.inl ⟨by rfl, ?_⟩) ?_ ?_; rotate_left; intro w'; go_simp; with_reducible rfl; rotate_left; simp only [Act.put, List.setIfInBounds_toArray, List.set_cons_zero, List.set_cons_succ, i64_w, i32_w]; rfl
     refine pure_ (i := 8) (N := some 40) (v := ?_) (a' := ?_) #[true, true, false, true, true, false, false, false, true, false, false, false, false, false] rfl rfl (any_of HT_.out (by kernel_rfl)) (fun _ _ _ h => h) (Or.inl ⟨by rfl, ?_⟩) ?_ ?_; rotate_left; intro w'; go_simp; with_reducible rfl; rotate_left; simp only [Act.put, List.setIfInBounds_toArray, List.set_cons_zero, List.set_cons_succ, i64_w, i32_w]; rfl
     refine take_ (i := 2) (N := some 34) (v := ?_) (a' := ?_) #[true, true, true, true, true, false, false, false, true, false, false, false, false, false] rfl rfl (take_ofW HT_.out HW_.out (by kernel_rfl)) (fun _ _ _ h => h) (Or.inl ⟨by rfl, ?_⟩) hHeld ?_ ?_; rotate_left; rintro w' ⟨s0, s1, s2, s3, s4⟩; go_simp; with_reducible rfl; rotate_left; simp only [Act.put, List.setIfInBounds_toArray, List.set_cons_zero, List.set_cons_succ, i64_w, i32_w]; rfl
     refine take_ (i := 5) (N := some 37) (v := ?_) (a' := ?_) #[true, true, true, true, true, true, false, false, true, false, false, false, false, false] rfl rfl (take_ofW HT_.out HW_.out (by kernel_rfl)) (fun _ _ _ h => h) (Or.inl ⟨by rfl, ?_⟩) hHeld ?_ ?_; rotate_left; rintro w' ⟨s0, s1, s2, s3, s4⟩; go_simp; with_reducible rfl; rotate_left; simp only [Act.put, List.setIfInBounds_toArray, List.set_cons_zero, List.set_cons_succ, i64_w, i32_w]; rfl
     refine pure_ (i := 6) (N := some 38) (v := ?_) (a' := ?_) #[true, true, true, true, true, true, true, false, true, false, false, false, false, false] rfl rfl (any_of HT_.out (by kernel_rfl)) (fun _ _ _ h => h) (Or.inl ⟨by rfl, ?_⟩) ?_ ?_; rotate_left; intro w'; go_simp; with_reducible rfl; rotate_left; simp only [Act.put, List.setIfInBounds_toArray, List.set_cons_zero, List.set_cons_succ, i64_w, i32_w]; rfl
     refine take_ (i := 7) (N := some 39) (v := ?_) (a' := ?_) #[true, true, true, true, true, true, true, true, true, false, false, false, false, false] rfl rfl (take_ofW HT_.out HW_.out (by kernel_rfl)) (fun _ _ _ h => h) (Or.inl ⟨by rfl, ?_⟩) hHeld ?_ ?_; rotate_left; rintro w' ⟨s0, s1, s2, s3, s4⟩; go_simp; with_reducible rfl; rotate_left; simp only [Act.put, List.setIfInBounds_toArray, List.set_cons_zero, List.set_cons_succ, i64_w, i32_w]; rfl
     refine take_ (i := 9) (N := some 41) (v := ?_) (a' := ?_) #[true, true, true, true, true, true, true, true, true, true, false, false, false, false] rfl rfl (take_ofW HT_.out HW_.out (by kernel_rfl)) (fun _ _ _ h => h) (Or.inl ⟨by rfl, ?_⟩) hHeld ?_ ?_; rotate_left; rintro w' ⟨s0, s1, s2, s3, s4⟩; go_simp; with_reducible rfl; rotate_left; simp only [Act.put, List.setIfInBounds_toArray, List.set_cons_zero, List.set_cons_succ, i64_w, i32_w]; rfl
     refine one_ (i := 10) (N := some 42) #[true, true, true, true, true, true, true, true, true, true, true, false, false, false] rfl rfl (one_of HT_.out (by kernel_rfl)) (by decide) (fun K hK => ?_)
     refine value_ (w1 := ?_) (v := ?_) (by rfl) rfl ?_ ?_
     rotate_left 2
     ·
      go_simp
      constructor
      ·
       rfl
      ·
       rfl
     refine hK.out _ _ ⟨(blk_cell (blk_alloc BK390.out _) 0).trans rfl, (blk_cell (blk_alloc BK390.out _) 1).trans rfl, (blk_cell (blk_alloc BK390.out _) 2).trans rfl, (blk_cell (blk_alloc BK390.out _) 3).trans rfl, (World.cell?_alloc_lt _ _ _ (World.block_lt_of_cell? _ _ (hHeld.2.2.2.2))).trans (hHeld.2.2.2.2)⟩ (fun hHeld => ?_)
     clear hK K
     refine norm_ (a' := ?_) ?_ ?_
     rotate_left
     ·
      show Act.put _ (some 42) _ = _
      simp only [Act.put, List.setIfInBounds_toArray, List.set_cons_zero, List.set_cons_succ, i64_w, i32_w]
      rfl
     refine one_ (i := 11) (N := some 43) #[true, true, true, true, true, true, true, true, true, true, true, true, false, false] rfl rfl (one_of HT_.out (by kernel_rfl)) (by decide) (fun K hK => ?_)
     refine Kd.R_append_step (Kd.int .i64) (w0 := w) w.heap.size (by rfl) (.tmp 39) (.tmp 42) 26 3 (.int .i64 0) 8 rfl Try.underlying26 info3 rfl (by decide) (by omega) (.slice A391_0 (rd_L2 x5_1 ((rd_T41 l0_1 x28_1).f0)).length c391_0) (rd_L2 x5_1 ((rd_T41 l0_1 x28_1).f0)) ((rd_T41 l0_1 x28_1).f1) [.int .i64 ((rd_T41 l0_1 x28_1).f1)] (fun k_ => oki34 k_ ∨ ((fun _ => True)) k_ ∧ w32.heap.size ≤ k_) (fun _ => False) rfl rfl ?aP (fun _ hk => hk.elim) ?aF ?aO ?aB ?aS ?aL ?_
     (case aP => exact rfl)
     (case aB => exact lb)
     (case aF => exact (fun k_ hk => .inr ⟨trivial, hk⟩))
     (case aO => exact (by exact rx (Kd.R_mono UU34.out (fun _ hk => .inl hk))))
     (case aS => exact (below_size lb))
     (case aL => have := LMc21.out; omega)
     intro v393 w35 ho hb hg hat
     (first | have HS4_ := cell_grown hg (hHeld.2.2.2.2) (by first | (rw [add_block]; exact (fun e_ => ((HL391_0.out.1 _ e_.symm).2) rfl)) | (show some (Addr.add _ _).block ≠ _; rw [add_block]; exact (fun e_ => ((HL391_0.out.1 _ e_.symm).2) rfl)) | exact (fun e_ => ((HL391_0.out.1 _ e_.symm).2) rfl)) | have HS4_ := cell_grown hg (cell_unalloc (hHeld.2.2.2.2) (by first | (rw [add_block]; exact Kd.S_lt HO_5.out _ rfl) | (show (Addr.add _ _).block < _; rw [add_block]; exact Kd.S_lt HO_5.out _ rfl) | exact Kd.S_lt HO_5.out _ rfl)) (by first | (rw [add_block]; exact (fun e_ => ((HL391_0.out.1 _ e_.symm).2) rfl)) | (show some (Addr.add _ _).block ≠ _; rw [add_block]; exact (fun e_ => ((HL391_0.out.1 _ e_.symm).2) rfl)) | exact (fun e_ => ((HL391_0.out.1 _ e_.symm).2) rfl)))
     rw [← Ny392.out] at ho
     have n0_ := ak (blk_grown (bx BK382.out) hg (Kd.R_ne HL391_0.out BK382.out (by decide)))
     have n1_ := ak (blk_grown (bx BK385.out) hg (Kd.R_ne HL391_0.out BK385.out (by decide)))
     have n2_ := ak (blk_grown (bx BK390.out) hg (Kd.R_ne HL391_0.out BK390.out (by decide)))
     have n3_ := ak (hb)
     have n4_ := ak (Kd.H_grown (Kd.H_widen (by repeat (first | exact HH34.out | refine Kd.H_alloc ?_ _ | refine Kd.H_drewN ?_ _ | refine Kd.H_drew ?_))) hg (fun k_ e_ => .inl (UU34.out.1 k_ e_)))
     have n5_ := ak (ho)
     clear BK382
     clear BK385
     clear BK390
     clear HB
     clear HH34
     clear HO_5
     clear UU34
     clear HL391_0
     have BK382 := n0_
     have BK385 := n1_
     have BK390 := n2_
     have HB := n3_
     have HH34 := n4_
     have HO394 := n5_
     clear n0_ n1_ n2_ n3_ n4_ n5_
     clear ho hb hg hat
     have p22 : 0 ≤ (((rd_T41 l0_1 x28_1).f0) : Int) := oda
     have q22 : (((rd_T41 l0_1 x28_1).f0) : Int) < ((x5_1.length : Int) : Int) := oda
     replace p22 := eq_true p22
     replace q22 := eq_true q22
     obtain ⟨Ao38, co38, eo38⟩ := Kd.R_slice HO394.out
     (first | subst eo38 | (injection eo38 with f1_ f2_ f3_; have f4_ := f1_.symm; have f5_ := f3_.symm; clear f1_ f2_ f3_; subst f4_; subst f5_))
     obtain ⟨_, _, hraw36, _, _, hcc36, _⟩ := Kd.H_raw HH34.out (oda) (by have h_ : (((rd_T41 l0_1 x28_1).f0) : Int) < ((x5_1.length : Int) : Int) := oda; first | exact h_ | (have e_ := (HN34.out); omega) | simpa using h_)
     obtain ⟨_, hfr36⟩ := Kd.H_at HH34.out (oda) (by have h_ : (((rd_T41 l0_1 x28_1).f0) : Int) < ((x5_1.length : Int) : Int) := oda; first | exact h_ | (have e_ := (HN34.out); omega) | simpa using h_)
     have hx36_0 := hcc36 0 _ rfl
     have hf36_0 := hfr36 0
     (try simp only [Nat.add_zero] at hx36_0 hf36_0)
     (try rw [show ((Kd.slice 3 (Kd.int .i64))).sz = 1 from rfl, Nat.mul_one] at hx36_0)
     (try rw [show ((Kd.slice 3 (Kd.int .i64))).sz = 1 from rfl, Nat.mul_one] at hf36_0)
     have HP36 := Kd.S_seg0 HH34.out (oda) (by have h_ : (((rd_T41 l0_1 x28_1).f0) : Int) < ((x5_1.length : Int) : Int) := oda; first | exact h_ | (have e_ := (HN34.out); omega) | simpa using h_) (seg := [.slice Ao38 y392.length co38]) (j := 0) (show 1 ≤ 1 from by decide) (x' := y392) (Kd.M_row HO394.out) (fun _ hk => hk)
     (try simp only [show ((Kd.slice 3 (Kd.int .i64))).sz = 1 from rfl, Nat.mul_one, Nat.add_zero] at HP36)
     clear hcc36 hfr36
     have HNB382_go34 := ak (show gb382 ≠ go34 from by have h_ := Kd.R_ne hraw36 BK382.out (by decide); intro e_; exact h_ (by rw [e_]; rfl))
     have HNB385_go34 := ak (show gb385 ≠ go34 from by have h_ := Kd.R_ne hraw36 BK385.out (by decide); intro e_; exact h_ (by rw [e_]; rfl))
     have HNB390_go34 := ak (show gb390 ≠ go34 from by have h_ := Kd.R_ne hraw36 BK390.out (by decide); intro e_; exact h_ (by rw [e_]; rfl))
     have HS36 := HP36.1
     rw [← Ny395.out] at HS36
     have HQ36 := ak HS36
     obtain ⟨_, hgg36⟩ := Kd.R_typed hraw36 go34 rfl
     have GG36_ := ak hgg36
     clear HP36 HS36 hgg36
     refine hK.out _ _ ⟨(blk_cell BK390.out 0).trans rfl, (blk_cell BK390.out 1).trans rfl, (blk_cell BK390.out 2).trans rfl, (blk_cell BK390.out 3).trans rfl, HS4_⟩ (fun hHeld => ?_)
     clear hK K
     refine norm_ (a' := ?_) ?_ ?_
     rotate_left
     ·
      show Act.put _ (some 43) _ = _
      simp only [Act.put, List.setIfInBounds_toArray, List.set_cons_zero, List.set_cons_succ, i64_w, i32_w]
      rfl
     refine pure_ (i := 12) (N := some 44) (v := ?_) (a' := ?_) #[true, true, true, true, true, true, true, true, true, true, true, true, true, false] rfl rfl (any_of HT_.out (by kernel_rfl)) (fun _ _ _ h => h) (Or.inl ⟨by rfl, ?_⟩) ?_ ?_; rotate_left; intro w'; go_simp; with_reducible rfl; rotate_left; simp only [Act.put, List.setIfInBounds_toArray, List.set_cons_zero, List.set_cons_succ, i64_w, i32_w]; rfl
     refine last_ (i := 13) (N := none) #[true, true, true, true, true, true, true, true, true, true, true, true, true, true] rfl rfl (one_of HT_.out (by kernel_rfl)) (by decide) (fun K hK => ?_)
     refine skip_ (w1 := ?_) (by rfl) rfl ?_ ?_
     rotate_left
     ·
      go_simp
      rfl
     refine hK.out _ _ ?_
     clear hK K
     refine done_ (done_of HT_.out (by kernel_rfl)) ?_
     try go_wp2
     have n0_ : Aside0 (Kd.S (Kd.slice 3 (Kd.int .i64)) 26 (w35.setCell ⟨go34, (((rd_T41 l0_1 x28_1).f0) : Int).toNat, none⟩ (.slice Ao38 y392.length co38)) w.heap.size (fun _ => True) (.slice (some ⟨go34, 0, none⟩) x5_1.length co33) y395) := ⟨by (with_reducible repeat (first | apply Kd.S_alloc | apply Kd.S_drewN | apply Kd.S_drew)); exact HQ36.out⟩
     have n1_ : Aside0 ((w35.setCell ⟨go34, (((rd_T41 l0_1 x28_1).f0) : Int).toNat, none⟩ (.slice Ao38 y392.length co38)).heap[gb382]? = some (.cells #[.int .i64 a0_0, .slice (some ad389) l0_1.length c0_1] 24 (0, 0))) := ⟨by (with_reducible repeat (first | refine blk_drewN ?_ _ | refine blk_drew ?_ | refine blk_alloc ?_ _)); refine blk_far ?_ HNB382_go34.out _; exact bx BK382.out⟩
     have n2_ : Aside0 ((w35.setCell ⟨go34, (((rd_T41 l0_1 x28_1).f0) : Int).toNat, none⟩ (.slice Ao38 y392.length co38)).heap[gb385]? = some (.cells #[.int .i64 t383, .int .i64 t384] 50 (0, 0))) := ⟨by (with_reducible repeat (first | refine blk_drewN ?_ _ | refine blk_drew ?_ | refine blk_alloc ?_ _)); refine blk_far ?_ HNB385_go34.out _; exact bx BK385.out⟩
     have n3_ : Aside0 ((w35.setCell ⟨go34, (((rd_T41 l0_1 x28_1).f0) : Int).toNat, none⟩ (.slice Ao38 y392.length co38)).heap[gb390]? = some (.cells #[.int .i64 ((rd_T41 l0_1 x28_1).f0), .int .i64 ((rd_T41 l0_1 x28_1).f1), .int .i64 ((rd_T41 l0_1 x28_1).f2), .int .i64 ((rd_T41 l0_1 x28_1).f3)] 41 (0, 0))) := ⟨by (with_reducible repeat (first | refine blk_drewN ?_ _ | refine blk_drew ?_ | refine blk_alloc ?_ _)); refine blk_far ?_ HNB390_go34.out _; exact bx BK390.out⟩
     have n4_ : Aside0 (Below w.heap.size w (w35.setCell ⟨go34, (((rd_T41 l0_1 x28_1).f0) : Int).toNat, none⟩ (.slice Ao38 y392.length co38))) := ⟨by repeat (first | (with_reducible first | exact HB.out | apply below_alloc | apply pw_below_drewN | apply below_drew1 | refine below_set ?_ GB34.out | refine below_set ?_ GE382.out | refine below_set ?_ GE385.out | refine below_set ?_ GE390.out) | exact HB.out)⟩
     (try clear HO_5)
     (try clear BK382)
     (try clear BK385)
     (try clear BK390)
     (try clear HB)
     generalize (w35.setCell ⟨go34, (((rd_T41 l0_1 x28_1).f0) : Int).toNat, none⟩ (.slice Ao38 y392.length co38)) = w39 at n0_ n1_ n2_ n3_ n4_ ⊢
     have HO_5 := n0_
     have BK382 := n1_
     have BK385 := n2_
     have BK390 := n3_
     have HB := n4_
     clear n0_ n1_ n2_ n3_ n4_
     have n0_ := ak (Kd.S_drew HO_5.out)
     have n1_ := ak (blk_drew BK382.out)
     have n2_ := ak (blk_drew BK385.out)
     have n3_ := ak (blk_drew BK390.out)
     have n4_ := ak (below_drew1 HB.out)
     clear HO_5
     clear BK382
     clear BK385
     clear BK390
     clear HB
     have HO_5 := n0_
     have BK382 := n1_
     have BK385 := n2_
     have BK390 := n3_
     have HB := n4_
     clear n0_ n1_ n2_ n3_ n4_
     have p396 : 0 ≤ (((rd_T41 l0_1 x28_1).f1) : Int) := oda
     have q396 : ((rd_T41 l0_1 x28_1).f1) < (y395.length : Int) := (by have h_ : (((rd_T41 l0_1 x28_1).f1) : Int) < ((x5_1.length : Int) : Int) := oda; first | (have e_ := (Kd.S_reads' HO_5.out).1; omega) | simpa only [Ny395.out, List.length_set] using h_)
     have ql396 : ((((rd_T41 l0_1 x28_1).f1) : Int) < ((x5_1.length : Int) : Int)) = True := eq_true (oda)
     obtain ⟨ad396, A396_0, c396_0, e396, hx396_0, hl396_0, hi396_0⟩ := at_L2 (Kd.S_reads' HO_5.out).2.2 ((rd_T41 l0_1 x28_1).f1) p396 q396
     obtain rfl : (⟨go34, 0, none⟩ : Addr) = ad396 := (by injection e396)
     obtain ⟨ce396, hce396, hMe396, hcc396⟩ := Kd.S_get HO_5.out [] ((rd_T41 l0_1 x28_1).f1) p396 (by first | exact q396 | exact oda | (have e_ := (Kd.S_reads' HO_5.out).1; omega))
     obtain ⟨ve396_0, rfl, ge396_0⟩ := hMe396
     have hv396_0 := hcc396 0 _ rfl
     rw [Nat.add_zero, show ((Kd.slice 3 (Kd.int .i64))).sz = 1 from rfl, Nat.mul_one] at hv396_0
     replace hv396_0 := Option.some.inj (hv396_0.symm.trans hx396_0)
     rw [hv396_0] at ge396_0
     have HL396_0 := ak (show Kd.R (Kd.int .i64) 3 _ _ _ _ (rd_L2 y395 ((rd_T41 l0_1 x28_1).f1)) from ge396_0)
     clear hv396_0 ge396_0
     have HX396_0 := ak hx396_0
     clear hcc396 hce396
     (first | simp only [add_plain] at hx396_0 | simp only [add_at] at hx396_0 | simp only [Addr.add, Nat.zero_add] at hx396_0 | skip)
     have HR396_0 := ak hi396_0
     have HC396_0 := ak hl396_0
     clear hi396_0 hl396_0
     replace p396 := eq_true p396
     replace q396 := eq_true q396
     obtain ⟨oki41, ce41, hcl41, hM41, hcc41, _, _, hH41⟩ := Kd.S_elem HO_5.out [] (((rd_T41 l0_1 x28_1).f1) : Int) (oda) (by have h_ : (((rd_T41 l0_1 x28_1).f1) : Int) < ((x5_1.length : Int) : Int) := oda; first | exact h_ | (have e_ := (Kd.S_reads' HO_5.out).1; omega) | simpa using h_)
     obtain ⟨ve41_0, rfl, ge41_0⟩ := hM41
     have hv41 := hcc41 0 _ rfl
     have hX41 := HX396_0.out
     (try simp only [add_plain] at hX41)
     (try simp only [Nat.add_zero] at hv41)
     (try rw [show ((Kd.slice 3 (Kd.int .i64))).sz = 1 from rfl, Nat.mul_one] at hv41)
     replace hv41 := Option.some.inj (hv41.symm.trans hX41)
     subst hv41
     clear hX41 hcc41 hcl41
     have UU41 := ak (show Kd.R (Kd.int .i64) 3 _ w.heap.size oki41 (.slice A396_0 (rd_L2 y395 ((rd_T41 l0_1 x28_1).f1)).length c396_0) (rd_L2 y395 ((rd_T41 l0_1 x28_1).f1)) from ge41_0)
     have HH41 := ak hH41
     have HN41 := ak (Kd.S_reads' HO_5.out).1
     clear hH41 ge41_0
     refine start_ (n := 14) (S := fun w' => w'.cell? ⟨gb390, 0, none⟩ = some (.int .i64 ((rd_T41 l0_1 x28_1).f0)) ∧ w'.cell? ⟨gb390, 1, none⟩ = some (.int .i64 ((rd_T41 l0_1 x28_1).f1)) ∧ w'.cell? ⟨gb390, 2, none⟩ = some (.int .i64 ((rd_T41 l0_1 x28_1).f2)) ∧ w'.cell? ⟨gb390, 3, none⟩ = some (.int .i64 ((rd_T41 l0_1 x28_1).f3)) ∧ w'.cell? ⟨go34, (((rd_T41 l0_1 x28_1).f1)).toNat, none⟩ = some (.slice A396_0 (rd_L2 y395 ((rd_T41 l0_1 x28_1).f1)).length c396_0)) (ds := [13]) #[false, false, false, false, false, false, false, false, false, false, false, false, false, false] (by kernel_rfl) rfl rfl ⟨(blk_cell BK390.out 0).trans rfl, (blk_cell BK390.out 1).trans rfl, (blk_cell BK390.out 2).trans rfl, (blk_cell BK390.out 3).trans rfl, hx396_0⟩ (fun hHeld => ?_); refine with_tabW walk_Parts.tab9 walk_Parts.bits9 (fun HT_ HW_ => ?_)
     generalize w39.drew = w40 at HO_5 BK382 BK385 BK390 HB HH41 HL396_0 HQ36 HR396_0 HX396_0 UU41 hx396_0 hHeld ⊢
     refine pure_ (i := 0) (N := some 45) (v := ?_) (a' := ?_) #[true, false, false, false, false, false, false, false, false, false, false, false, false, false] rfl rfl (any_of HT_.out (by kernel_rfl)) (fun _ _ _ h => h) (Or.inl ⟨by rfl, ?_⟩) ?_ ?_; rotate_left; intro w'; go_simp; with_reducible rfl; rotate_left; simp only [Act.put, List.setIfInBounds_toArray, List.set_cons_zero, List.set_cons_succ, i64_w, i32_w]; rfl
     refine pure_ (i := 1) (N := some 46) (v := ?_) (a' := ?_) #[true, true, false, false, false, false, false, false, false, false, false, false, false, false] rfl rfl (any_of HT_.out (by kernel_rfl)) (fun _ _ _ h => h) (Or.inl ⟨by rfl, ?_⟩) ?_ ?_; rotate_left; intro w'; go_simp; with_reducible rfl; rotate_left; simp only [Act.put, List.setIfInBounds_toArray, List.set_cons_zero, List.set_cons_succ, i64_w, i32_w]; rfl
     refine pure_ (i := 3) (N := some 48) (v := ?_) (a' := ?_) #[true, true, false, true, false, false, false, false, false, false, false, false, false, false] rfl rfl (any_of HT_.out (by kernel_rfl)) (fun _ _ _ h => h) (Or.inl ⟨by rfl, ?_⟩) ?_ ?_; rotate_left; intro w'; go_simp; with_reducible rfl; rotate_left; simp only [Act.put, List.setIfInBounds_toArray, List.set_cons_zero, List.set_cons_succ, i64_w, i32_w]; rfl
     refine pure_ (i := 4) (N := some 49) (v := ?_) (a' := ?_) #[true, true, false, true, true, false, false, false, false, false, false, false, false, false] rfl rfl (any_of HT_.out (by kernel_rfl)) (fun _ _ _ h => h) (Or.inl ⟨by rfl, ?_⟩) ?_ ?_; rotate_left; intro w'; go_simp; with_reducible rfl; rotate_left; simp only [Act.put, List.setIfInBounds_toArray, List.set_cons_zero, List.set_cons_succ, i64_w, i32_w]; rfl
     refine pure_ (i := 8) (N := some 53) (v := ?_) (a' := ?_) #[true, true, false, true, true, false, false, false, true, false, false, false, false, false] rfl rfl (any_of HT_.out (by kernel_rfl)) (fun _ _ _ h => h) (Or.inl ⟨by rfl, ?_⟩) ?_ ?_; rotate_left; intro w'; go_simp; with_reducible rfl; rotate_left; simp only [Act.put, List.setIfInBounds_toArray, List.set_cons_zero, List.set_cons_succ, i64_w, i32_w]; rfl
     refine take_ (i := 2) (N := some 47) (v := ?_) (a' := ?_) #[true, true, true, true, true, false, false, false, true, false, false, false, false, false] rfl rfl (take_ofW HT_.out HW_.out (by kernel_rfl)) (fun _ _ _ h => h) (Or.inl ⟨by rfl, ?_⟩) hHeld ?_ ?_; rotate_left; rintro w' ⟨s0, s1, s2, s3, s4⟩; go_simp; with_reducible rfl; rotate_left; simp only [Act.put, List.setIfInBounds_toArray, List.set_cons_zero, List.set_cons_succ, i64_w, i32_w]; rfl
     refine take_ (i := 5) (N := some 50) (v := ?_) (a' := ?_) #[true, true, true, true, true, true, false, false, true, false, false, false, false, false] rfl rfl (take_ofW HT_.out HW_.out (by kernel_rfl)) (fun _ _ _ h => h) (Or.inl ⟨by rfl, ?_⟩) hHeld ?_ ?_; rotate_left; rintro w' ⟨s0, s1, s2, s3, s4⟩; go_simp; with_reducible rfl; rotate_left; simp only [Act.put, List.setIfInBounds_toArray, List.set_cons_zero, List.set_cons_succ, i64_w, i32_w]; rfl
     refine pure_ (i := 6) (N := some 51) (v := ?_) (a' := ?_) #[true, true, true, true, true, true, true, false, true, false, false, false, false, false] rfl rfl (any_of HT_.out (by kernel_rfl)) (fun _ _ _ h => h) (Or.inl ⟨by rfl, ?_⟩) ?_ ?_; rotate_left; intro w'; go_simp; with_reducible rfl; rotate_left; simp only [Act.put, List.setIfInBounds_toArray, List.set_cons_zero, List.set_cons_succ, i64_w, i32_w]; rfl
     refine take_ (i := 7) (N := some 52) (v := ?_) (a' := ?_) #[true, true, true, true, true, true, true, true, true, false, false, false, false, false] rfl rfl (take_ofW HT_.out HW_.out (by kernel_rfl)) (fun _ _ _ h => h) (Or.inl ⟨by rfl, ?_⟩) hHeld ?_ ?_; rotate_left; rintro w' ⟨s0, s1, s2, s3, s4⟩; go_simp; with_reducible rfl; rotate_left; simp only [Act.put, List.setIfInBounds_toArray, List.set_cons_zero, List.set_cons_succ, i64_w, i32_w]; rfl
     refine take_ (i := 9) (N := some 54) (v := ?_) (a' := ?_) #[true, true, true, true, true, true, true, true, true, true, false, false, false, false] rfl rfl (take_ofW HT_.out HW_.out (by kernel_rfl)) (fun _ _ _ h => h) (Or.inl ⟨by rfl, ?_⟩) hHeld ?_ ?_; rotate_left; rintro w' ⟨s0, s1, s2, s3, s4⟩; go_simp; with_reducible rfl; rotate_left; simp only [Act.put, List.setIfInBounds_toArray, List.set_cons_zero, List.set_cons_succ, i64_w, i32_w]; rfl
     refine one_ (i := 10) (N := some 55) #[true, true, true, true, true, true, true, true, true, true, true, false, false, false] rfl rfl (one_of HT_.out (by kernel_rfl)) (by decide) (fun K hK => ?_)
     refine value_ (w1 := ?_) (v := ?_) (by rfl) rfl ?_ ?_
     rotate_left 2
     ·
      go_simp
      constructor
      ·
       rfl
      ·
       rfl
     refine hK.out _ _ ⟨(blk_cell (blk_alloc BK390.out _) 0).trans rfl, (blk_cell (blk_alloc BK390.out _) 1).trans rfl, (blk_cell (blk_alloc BK390.out _) 2).trans rfl, (blk_cell (blk_alloc BK390.out _) 3).trans rfl, (World.cell?_alloc_lt _ _ _ (World.block_lt_of_cell? _ _ (hHeld.2.2.2.2))).trans (hHeld.2.2.2.2)⟩ (fun hHeld => ?_)
     clear hK K
     refine norm_ (a' := ?_) ?_ ?_
     rotate_left
     ·
      show Act.put _ (some 55) _ = _
      simp only [Act.put, List.setIfInBounds_toArray, List.set_cons_zero, List.set_cons_succ, i64_w, i32_w]
      rfl
     refine one_ (i := 11) (N := some 56) #[true, true, true, true, true, true, true, true, true, true, true, true, false, false] rfl rfl (one_of HT_.out (by kernel_rfl)) (by decide) (fun K hK => ?_)
     refine Kd.R_append_step (Kd.int .i64) (w0 := w) w.heap.size (by rfl) (.tmp 52) (.tmp 55) 26 3 (.int .i64 0) 8 rfl Try.underlying26 info3 rfl (by decide) (by omega) (.slice A396_0 (rd_L2 y395 ((rd_T41 l0_1 x28_1).f1)).length c396_0) (rd_L2 y395 ((rd_T41 l0_1 x28_1).f1)) ((rd_T41 l0_1 x28_1).f0) [.int .i64 ((rd_T41 l0_1 x28_1).f0)] (fun k_ => oki41 k_ ∨ ((fun _ => True)) k_ ∧ w40.heap.size ≤ k_) (fun _ => False) rfl rfl ?aP (fun _ hk => hk.elim) ?aF ?aO ?aB ?aS ?aL ?_
     (case aP => exact rfl)
     (case aB => exact lb)
     (case aF => exact (fun k_ hk => .inr ⟨trivial, hk⟩))
     (case aO => exact (by exact rx (Kd.R_mono UU41.out (fun _ hk => .inl hk))))
     (case aS => exact (below_size lb))
     (case aL => have := LMc25.out; omega)
     intro v398 w42 ho hb hg hat
     (first | have HS4_ := cell_grown hg (hHeld.2.2.2.2) (by first | (rw [add_block]; exact (fun e_ => ((HL396_0.out.1 _ e_.symm).2) rfl)) | (show some (Addr.add _ _).block ≠ _; rw [add_block]; exact (fun e_ => ((HL396_0.out.1 _ e_.symm).2) rfl)) | exact (fun e_ => ((HL396_0.out.1 _ e_.symm).2) rfl)) | have HS4_ := cell_grown hg (cell_unalloc (hHeld.2.2.2.2) (by first | (rw [add_block]; exact Kd.S_lt HO_5.out _ rfl) | (show (Addr.add _ _).block < _; rw [add_block]; exact Kd.S_lt HO_5.out _ rfl) | exact Kd.S_lt HO_5.out _ rfl)) (by first | (rw [add_block]; exact (fun e_ => ((HL396_0.out.1 _ e_.symm).2) rfl)) | (show some (Addr.add _ _).block ≠ _; rw [add_block]; exact (fun e_ => ((HL396_0.out.1 _ e_.symm).2) rfl)) | exact (fun e_ => ((HL396_0.out.1 _ e_.symm).2) rfl)))
     rw [← Ny397.out] at ho
     have n0_ := ak (blk_grown (bx BK382.out) hg (Kd.R_ne HL396_0.out BK382.out (by decide)))
     have n1_ := ak (blk_grown (bx BK385.out) hg (Kd.R_ne HL396_0.out BK385.out (by decide)))
     have n2_ := ak (blk_grown (bx BK390.out) hg (Kd.R_ne HL396_0.out BK390.out (by decide)))
     have n3_ := ak (hb)
     have n4_ := ak (Kd.H_grown (Kd.H_widen (by repeat (first | exact HH41.out | refine Kd.H_alloc ?_ _ | refine Kd.H_drewN ?_ _ | refine Kd.H_drew ?_))) hg (fun k_ e_ => .inl (UU41.out.1 k_ e_)))
     have n5_ := ak (ho)
     clear BK382
     clear BK385
     clear BK390
     clear HB
     clear HH41
     clear HO_5
     clear UU41
     clear HL396_0
     have BK382 := n0_
     have BK385 := n1_
     have BK390 := n2_
     have HB := n3_
     have HH41 := n4_
     have HO399 := n5_
     clear n0_ n1_ n2_ n3_ n4_ n5_
     clear ho hb hg hat
     have p26 : 0 ≤ (((rd_T41 l0_1 x28_1).f1) : Int) := oda
     have q26 : (((rd_T41 l0_1 x28_1).f1) : Int) < ((x5_1.length : Int) : Int) := oda
     replace p26 := eq_true p26
     replace q26 := eq_true q26
     obtain ⟨Ao45, co45, eo45⟩ := Kd.R_slice HO399.out
     (first | subst eo45 | (injection eo45 with f1_ f2_ f3_; have f4_ := f1_.symm; have f5_ := f3_.symm; clear f1_ f2_ f3_; subst f4_; subst f5_))
     obtain ⟨_, _, hraw43, _, _, hcc43, _⟩ := Kd.H_raw HH41.out (oda) (by have h_ : (((rd_T41 l0_1 x28_1).f1) : Int) < ((x5_1.length : Int) : Int) := oda; first | exact h_ | (have e_ := (HN41.out); omega) | simpa using h_)
     obtain ⟨_, hfr43⟩ := Kd.H_at HH41.out (oda) (by have h_ : (((rd_T41 l0_1 x28_1).f1) : Int) < ((x5_1.length : Int) : Int) := oda; first | exact h_ | (have e_ := (HN41.out); omega) | simpa using h_)
     have hx43_0 := hcc43 0 _ rfl
     have hf43_0 := hfr43 0
     (try simp only [Nat.add_zero] at hx43_0 hf43_0)
     (try rw [show ((Kd.slice 3 (Kd.int .i64))).sz = 1 from rfl, Nat.mul_one] at hx43_0)
     (try rw [show ((Kd.slice 3 (Kd.int .i64))).sz = 1 from rfl, Nat.mul_one] at hf43_0)
     have HP43 := Kd.S_seg0 HH41.out (oda) (by have h_ : (((rd_T41 l0_1 x28_1).f1) : Int) < ((x5_1.length : Int) : Int) := oda; first | exact h_ | (have e_ := (HN41.out); omega) | simpa using h_) (seg := [.slice Ao45 y397.length co45]) (j := 0) (show 1 ≤ 1 from by decide) (x' := y397) (Kd.M_row HO399.out) (fun _ hk => hk)
     (try simp only [show ((Kd.slice 3 (Kd.int .i64))).sz = 1 from rfl, Nat.mul_one, Nat.add_zero] at HP43)
     clear hcc43 hfr43
     have HNB382_go34 := ak (show gb382 ≠ go34 from by have h_ := Kd.R_ne hraw43 BK382.out (by decide); intro e_; exact h_ (by rw [e_]; rfl))
     have HNB385_go34 := ak (show gb385 ≠ go34 from by have h_ := Kd.R_ne hraw43 BK385.out (by decide); intro e_; exact h_ (by rw [e_]; rfl))
     have HNB390_go34 := ak (show gb390 ≠ go34 from by have h_ := Kd.R_ne hraw43 BK390.out (by decide); intro e_; exact h_ (by rw [e_]; rfl))
     have HS43 := HP43.1
     rw [← Ny400.out] at HS43
     have HQ43 := ak HS43
     obtain ⟨_, hgg43⟩ := Kd.R_typed hraw43 go34 rfl
     have GG43_ := ak hgg43
     clear HP43 HS43 hgg43
     refine hK.out _ _ ⟨(blk_cell BK390.out 0).trans rfl, (blk_cell BK390.out 1).trans rfl, (blk_cell BK390.out 2).trans rfl, (blk_cell BK390.out 3).trans rfl, HS4_⟩ (fun hHeld => ?_)
     clear hK K
     refine norm_ (a' := ?_) ?_ ?_
     rotate_left
     ·
      show Act.put _ (some 56) _ = _
      simp only [Act.put, List.setIfInBounds_toArray, List.set_cons_zero, List.set_cons_succ, i64_w, i32_w]
      rfl
     refine pure_ (i := 12) (N := some 57) (v := ?_) (a' := ?_) #[true, true, true, true, true, true, true, true, true, true, true, true, true, false] rfl rfl (any_of HT_.out (by kernel_rfl)) (fun _ _ _ h => h) (Or.inl ⟨by rfl, ?_⟩) ?_ ?_; rotate_left; intro w'; go_simp; with_reducible rfl; rotate_left; simp only [Act.put, List.setIfInBounds_toArray, List.set_cons_zero, List.set_cons_succ, i64_w, i32_w]; rfl
     refine last_ (i := 13) (N := none) #[true, true, true, true, true, true, true, true, true, true, true, true, true, true] rfl rfl (one_of HT_.out (by kernel_rfl)) (by decide) (fun K hK => ?_)
     refine skip_ (w1 := ?_) (by rfl) rfl ?_ ?_
     rotate_left
     ·
      go_simp
      rfl
     refine hK.out _ _ ?_
     clear hK K
     refine done_ (done_of HT_.out (by kernel_rfl)) ?_
     try go_wp2
     go_roundg k1
     case measure => have := HK1.out; omega
     case rel => exact ⟨(y400), (wrap64 (x28_1 + 1)), (by first | rfl | (simp [*]; done)), H', ⟨by have := HK1.out; omega⟩, ⟨by (with_reducible repeat (first | apply Kd.S_alloc | apply Kd.S_drewN | apply Kd.S_drew)); exact HQ43.out⟩, ⟨by (with_reducible repeat (first | refine blk_drewN ?_ _ | refine blk_drew ?_ | refine blk_alloc ?_ _)); refine blk_far ?_ HNB382_go34.out _; exact bx BK382.out⟩, ⟨by (with_reducible repeat (first | refine blk_drewN ?_ _ | refine blk_drew ?_ | refine blk_alloc ?_ _)); refine blk_far ?_ HNB385_go34.out _; exact bx BK385.out⟩, ⟨by repeat (first | (with_reducible first | exact HB.out | apply below_alloc | apply pw_below_drewN | apply below_drew1 | refine below_set ?_ GB34.out | refine below_set ?_ GE382.out | refine below_set ?_ GE385.out | refine below_set ?_ GE390.out) | exact HB.out)⟩⟩
    ·
     rw [if_neg c16] at H
     have c16b0 : decide (x28_1 < (l0_1.length : Int)) = false := decide_eq_false c16
     clear c16
     replace H := Option.bind_eq_some_iff.mp H
     obtain ⟨t401, A460, H⟩ := H
     replace H : (walk_Parts.l1 k1 x5_1 t401 0 a0_0 0) = some (r1, r2) := H
     have A46 := ak A460
     clear A460
     have H' := ak H
     clear H
     have hnb47 := NB382_385.out
     have hnc47 := NB385_382.out
     have hcz48_0 : wr.cell? ⟨gb382, 0, none⟩ = some (.int .i64 a0_0) := (blk_cell BK382.out 0).trans rfl
     have hcz48_1 : wr.cell? ⟨gb382, 1, none⟩ = some (.slice A0_1 l0_1.length c0_1) := (blk_cell BK382.out 1).trans rfl
     have hfz48_0 := blk_frozen BK382.out 0
     have hfz48_1 := blk_frozen BK382.out 1
     go_wp2_with (first | ((with_reducible refine gate_callee (f := 31) rfl ?_); refine goesL_ (some 61) rfl rfl Try.func31 (by kernel_rfl) rfl #[.int .i64 a0_0, .int .i64 (-1)] rfl (by (try simp only [List.map_toArray, List.map_cons, List.map_nil]); first | done | rfl | (simp only [List.length_drop, List.length_take]; rfl)) ?_; (with_reducible refine (walk_filled.calls k1 a0_0 (-1) t401 _ A46.out).mono ?_); rintro e w49 ⟨v402, rfl, ho0, hb⟩; refine ⟨_, rfl, ?_⟩; have n0_ := ak (Kd.S_elder' (sx HO_5.out) (Kd.R_base ho0) hb); have n1_ := ak (Kd.R_lower ho0 (below_size lb)); have n2_ := ak (blk_below (bx BK382.out) hb); have n3_ := ak (blk_below (bx BK385.out) hb); have n4_ := ak (below_step lb hb); clear HO_5; clear BK382; clear BK385; clear HB; have HO_5 := n0_; have HO403 := n1_; have BK382 := n2_; have BK385 := n3_; have HB := n4_; clear n0_ n1_ n2_ n3_ n4_; (try clear hb); (try clear hb2); (try clear hk); (try clear hi); (try clear ho0); have hcz50_0 : w49.cell? ⟨gb382, 0, none⟩ = some (.int .i64 a0_0) := (blk_cell BK382.out 0).trans rfl; have hcz50_1 : w49.cell? ⟨gb382, 1, none⟩ = some (.slice A0_1 l0_1.length c0_1) := (blk_cell BK382.out 1).trans rfl; have hfz50_0 := blk_frozen BK382.out 0; have hfz50_1 := blk_frozen BK382.out 1))
     go_loopg [9, 64] k1 (fun kq v9 v64 w' => ∃ (x8_2 : List Int) (x9_2 : Int) (x64_2 : Int), v9 = .int .i64 x9_2 ∧ v64 = .int .i64 x64_2 ∧ Aside0 (walk_Parts.l1 kq x5_1 x8_2 x9_2 a0_0 x64_2 = some (r1, r2)) ∧ Aside0 (kq ≤ k1) ∧ Aside0 (Kd.S (Kd.slice 3 (Kd.int .i64)) 26 w' w.heap.size (fun k_ => some k_ ≠ (v402 : Value).ownBlock) v387 x5_1) ∧ Aside0 (Kd.R (Kd.int .i64) 3 w' w.heap.size (fun _ => True) v402 x8_2) ∧ Aside0 (w'.heap[gb382]? = some (.cells #[.int .i64 a0_0, (.slice A0_1 l0_1.length c0_1)] 24 (0, 0))) ∧ Aside0 (w'.heap[gb385]? = some (.cells #[.int .i64 t383, .int .i64 t384] 50 (0, 0))) ∧ Aside0 (Below w.heap.size w w'))
     case atStart => exact ⟨(t401), (0), (0), (by first | rfl | (simp [*]; done)), (by first | rfl | (simp [*]; done)), H', ⟨Nat.le_refl _⟩, ⟨by exact sx (Kd.S_mono HO_5.out (fun _ hk => hk.2))⟩, ⟨rx HO403.out⟩, ⟨bx BK382.out⟩, ⟨bx BK385.out⟩, ⟨lb⟩⟩
     case round =>
      clear H'
      try clear c1; try clear c2; try clear p2; try clear q2; try clear c3; try clear p3; try clear q3; try clear hx3; try clear hf3; try clear c4; try clear hx4; try clear hf4; try clear p6; try clear c16; try clear c16b0; try clear c17; try clear c17b0; try clear c18; try clear c18b0; try clear c19; try clear c19b0; try clear c20; try clear c20b0; try clear c21; try clear p22; try clear q22; try clear c23; try clear c23b0; try clear c24; try clear c24b0; try clear c25; try clear p26; try clear q26; try clear c28; try clear c29; try clear c31; try clear c34; try clear c36; try clear hx36; try clear hf36; try clear p38; try clear q38; try clear hx38; try clear c39; try clear p39; try clear q39; try clear hx39; try clear c41; try clear c43; try clear hx43; try clear hf43; try clear c47; try clear hcz30_0; try clear hcz30_1; try clear hcz30_2; try clear hcz30_3; try clear hcz48_0; try clear hcz48_1; try clear hcz50_0; try clear hcz50_1; try clear hfz30_0; try clear hfz30_1; try clear hfz30_2; try clear hfz30_3; try clear hfz48_0; try clear hfz48_1; try clear hfz50_0; try clear hfz50_1; try clear hx36_0; try clear hx389_0; try clear hx389_1; try clear hx389_2; try clear hx389_3; try clear hx391_0; try clear hx396_0; try clear hx43_0; try clear p22; try clear p26; try clear p389; try clear p391; try clear p396; try clear q22; try clear q26; try clear q389; try clear q391; try clear q396
      obtain ⟨x8_2, x9_2, x64_2, rfl, rfl, HA, HK2, HO_5, HO_8, BK382, BK385, HB⟩ := hrel
      cases gk with
      | zero => exact absurd HA.out (by simp [walk_Parts.l1])
      | succ k2 =>
       have H := HA.out
       clear HA
       simp only [walk_Parts.l1] at H
       by_cases c51 : x64_2 < a0_0
       ·
        rw [if_pos c51] at H
        have c51b0 : decide (x64_2 < a0_0) = true := decide_eq_true c51
        clear c51
        by_cases c52 : 0 ≤ x64_2
        rotate_left
        ·
         rw [if_neg c52] at H
         exact absurd H (by simp)
        rw [if_pos c52] at H
        have c52b0 : decide (0 ≤ x64_2) = true := decide_eq_true c52
        clear c52
        by_cases c53 : x64_2 < (x8_2.length : Int)
        rotate_left
        ·
         rw [if_neg c53] at H
         exact absurd H (by simp)
        rw [if_pos c53] at H
        have c53b0 : decide (x64_2 < (x8_2.length : Int)) = true := decide_eq_true c53
        clear c53
        by_cases c54 : (rd x8_2 x64_2) ≥ 0
        ·
         rw [if_pos c54] at H
         have c54b0 : decide (0 ≤ (rd x8_2 x64_2)) = true := decide_eq_true c54
         clear c54
         have H' := ak H
         clear H
         obtain ⟨Ao55, co55, eo55⟩ := Kd.R_slice HO_8.out
         subst eo55
         have p404 : 0 ≤ (x64_2 : Int) := oda
         have q404 : x64_2 < (x8_2.length : Int) := oda
         obtain ⟨ad404, e404, hx404_0⟩ := Kd.at_int (Kd.R_reads' HO_8.out).2.2 x64_2 p404 q404
         cases e404
         replace p404 := eq_true p404
         replace q404 := eq_true q404
         go_wp2
         go_roundg k2
         case measure => have := HK1.out; have := HK2.out; omega
         case rel => exact ⟨(x8_2), (x9_2), (wrap64 (x64_2 + 1)), (by first | rfl | (simp [*]; done)), (by first | rfl | (simp [*]; done)), H', ⟨by have := HK1.out; have := HK2.out; omega⟩, ⟨sx HO_5.out⟩, ⟨rx HO_8.out⟩, ⟨bx BK382.out⟩, ⟨bx BK385.out⟩, ⟨lb⟩⟩
        ·
         rw [if_neg c54] at H
         have c54b0 : decide (0 ≤ (rd x8_2 x64_2)) = false := decide_eq_false c54
         clear c54
         obtain ⟨y405, hy405⟩ : ∃ y_ : List Int, y_ = (([x64_2] : List Int)) := ⟨_, rfl⟩
         replace H : (walk_Parts.l2 k2 x5_1 (x8_2.set (x64_2 : Int).toNat x9_2) x9_2 y405 a0_0 x64_2) = some (r1, r2) := by first | (rw [hy405]; exact H) | exact H
         have Ny405 := ak hy405
         clear hy405
         obtain ⟨y408, hy408⟩ : ∃ y_ : List Int, y_ = (x8_2.set (x64_2 : Int).toNat x9_2) := ⟨_, rfl⟩
         replace H : (walk_Parts.l2 k2 x5_1 y408 x9_2 y405 a0_0 x64_2) = some (r1, r2) := by first | (rw [hy408]; exact H) | exact H
         have Ny408 := ak hy408
         clear hy408
         have H' := ak H
         clear H
         obtain ⟨Ao57, co57, eo57⟩ := Kd.R_slice HO_8.out
         subst eo57
         have p404 : 0 ≤ (x64_2 : Int) := oda
         have q404 : x64_2 < (x8_2.length : Int) := oda
         obtain ⟨ad404, e404, hx404_0⟩ := Kd.at_int (Kd.R_reads' HO_8.out).2.2 x64_2 p404 q404
         cases e404
         replace p404 := eq_true p404
         replace q404 := eq_true q404
         go_wp2_with (first | ((with_reducible refine gate_dst (N := 73) rfl ?_); refine Kd.R_lit (Kd.int .i64) _ 3 ?hg (N := 73) ?hd (xs := ([x64_2] : List Int)) (inner := [.int .i64 x64_2]) (ok := fun _ => True) (okp := fun _ => True) ?hr ?hp (fun _ hk => hk) trivial (Below.refl _ _) (Nat.le_refl _) (by simp) ?_; (case hd => rfl); (case hg => rfl); (case hr => first | (go_simp; done) | (go_simp; rfl)); (case hp => exact (Reps.one (show Kd.M (Kd.int .i64) _ _ _ x64_2 [.int .i64 x64_2] from rfl) (Reps.none _ _))); intro v406 w58 ho59 hb hg_ hnew_; clear hg_ hnew_; (first | rw [← Ny405.out] at ho59 | (simp only [Int.reduceToNat] at ho59; rw [← Ny405.out] at ho59)); have n0_ := ak (Kd.S_elder' (sx HO_5.out) (Kd.R_base ho59) hb); have n1_ := ak (Kd.R_elder' (rx HO_8.out) (Kd.R_base ho59) hb); have n2_ := ak (Kd.R_lower (Kd.R_new' ho59 (Kd.R_lt (rx HO_8.out))) (below_size lb)); have n3_ := ak (blk_below (bx BK382.out) hb); have n4_ := ak (blk_below (bx BK385.out) hb); have n5_ := ak (below_step lb hb); clear HO_5; clear HO_8; clear BK382; clear BK385; clear HB; have HO_5 := n0_; have HO_8 := n1_; have HO407 := n2_; have BK382 := n3_; have BK385 := n4_; have HB := n5_; clear n0_ n1_ n2_ n3_ n4_ n5_; clear hb ho59; have p56 : 0 ≤ (x64_2 : Int) := oda; have q56 : (x64_2 : Int) < ((x8_2.length : Int) : Int) := oda; obtain ⟨go56, co56, eo56, gb56, gl56, cl56, HG56⟩ := Kd.R_form HO_8.out (by omega); (first | cases eo56 | (injection eo56 with ea_ en_ ec_; (first | subst ea_ | (injection ea_ with ea_; subst ea_)); subst ec_; clear en_)); have GB56 := ak gb56; have GG56 := ak HG56; clear gb56 gl56 HG56; (first | simp only [add_plain] at hx404_0 | skip); obtain ⟨hx56_0, hf56_0⟩ := Kd.R_celln 0 HO_8.out (x64_2 : Int) p56 q56; replace p56 := eq_true p56; replace q56 := eq_true q56; have n_ := ak (Kd.R_mono (ok' := (fun k_ => some k_ ≠ (v406 : Value).ownBlock)) HO_8.out (fun k_ hk => hk.2)); clear HO_8; have HO_8 := n_; clear n_; obtain ⟨hy60_, hz60_⟩ := Kd.R_celln 0 HO_8.out (x64_2 : Int) (oda) (oda); have HP60 := Kd.R_putg HO_8.out (x64_2 : Int) x9_2) | ((with_reducible refine gate_store (t := 3) (p := 77) rfl ?_); refine store_event (t := 3) (p := 77) (v := ?vo_w61) (w1 := (w58.setCell ⟨go56, (x64_2 : Int).toNat, none⟩ (.int .i64 x9_2))) ?hg ?ho ?hn ?hr ?_; (case ho => rfl); (case hg => rfl); (case hn => rfl); (case hr => first | (go_simp; done) | (go_simp; rfl)); intro w61 hw; have hg : w58.grownBy w61 (some go56) := (by rw [hw]; exact HP60.2); have hp_ : Kd.R (Kd.int .i64) 3 w61 w.heap.size (fun k_ => some k_ ≠ (v406 : Value).ownBlock) (.slice (some ⟨go56, 0, none⟩) x8_2.length co57) y408 := (by rw [hw, Ny408.out]; exact HP60.1); clear HP60; have n0_ := ak (Kd.S_after (v := (.slice (some ⟨go56, 0, none⟩) x8_2.length co57)) (v1 := (.slice (some ⟨go56, 0, none⟩) x8_2.length co57)) (ok := (fun k_ => some k_ ≠ (v406 : Value).ownBlock)) (by exact sx (Kd.S_mono HO_5.out (fun _ hk => ⟨hk.2, hk.1⟩))) hg (.inl rfl)); have n1_ := ak (hp_); have n2_ := ak (blk_grown (bx BK382.out) hg (Kd.R_ne HO_8.out BK382.out (by decide))); have n3_ := ak (blk_grown (bx BK385.out) hg (Kd.R_ne HO_8.out BK385.out (by decide))); have n4_ := ak (Kd.R_after (v := (.slice (some ⟨go56, 0, none⟩) x8_2.length co57)) (v1 := (.slice (some ⟨go56, 0, none⟩) x8_2.length co57)) (ok := (fun _ => True)) (rx HO407.out) hg (.inl rfl)); have n5_ := ak ((by rw [hw]; exact below_set (HB.out) GB56.out : Below w.heap.size w w61)); clear HO_5; clear HO_8; clear BK382; clear BK385; clear HO407; clear HB; have HO_5 := n0_; have HO_8 := n1_; have BK382 := n2_; have BK385 := n3_; have HO407 := n4_; have HB := n5_; clear n0_ n1_ n2_ n3_ n4_ n5_; clear hg hw hp_))
         go_loopg [11] k2 (fun kq v11 w' => ∃ (x8_3 : List Int) (x11_3 : List Int), Aside0 (walk_Parts.l2 kq x5_1 x8_3 x9_2 x11_3 a0_0 x64_2 = some (r1, r2)) ∧ Aside0 (kq ≤ k2) ∧ Aside0 (Kd.S (Kd.slice 3 (Kd.int .i64)) 26 w' w.heap.size (fun k_ => some k_ ≠ ((.slice (some ⟨go56, 0, none⟩) x8_2.length co57) : Value).ownBlock ∧ some k_ ≠ (v11 : Value).ownBlock) v387 x5_1) ∧ Aside0 (Kd.R (Kd.int .i64) 3 w' w.heap.size (fun k_ => some k_ ≠ (v11 : Value).ownBlock) (.slice (some ⟨go56, 0, none⟩) x8_2.length co57) x8_3) ∧ Aside0 (Kd.R (Kd.int .i64) 3 w' w.heap.size (fun k_ => some k_ ≠ ((.slice (some ⟨go56, 0, none⟩) x8_2.length co57) : Value).ownBlock) v11 x11_3) ∧ Aside0 (w'.heap[gb382]? = some (.cells #[.int .i64 a0_0, (.slice A0_1 l0_1.length c0_1)] 24 (0, 0))) ∧ Aside0 (w'.heap[gb385]? = some (.cells #[.int .i64 t383, .int .i64 t384] 50 (0, 0))) ∧ Aside0 (Below w.heap.size w w'))
         case atStart => exact ⟨(y408), (y405), H', ⟨Nat.le_refl _⟩, ⟨by exact sx (Kd.S_mono HO_5.out (fun _ hk => ⟨hk.2, hk.1⟩))⟩, ⟨rx HO_8.out⟩, ⟨by exact rx (Kd.R_mono HO407.out (fun _ hk => hk.2))⟩, ⟨bx BK382.out⟩, ⟨bx BK385.out⟩, ⟨lb⟩⟩
         case round =>
          clear H'
          try clear c1; try clear c2; try clear p2; try clear q2; try clear c3; try clear p3; try clear q3; try clear hx3; try clear hf3; try clear c4; try clear p4; try clear q4; try clear hx4; try clear hf4; try clear c5; try clear p5; try clear q5; try clear hx5; try clear hf5; try clear p6; try clear c16; try clear c16b0; try clear c17; try clear c17b0; try clear c18; try clear c18b0; try clear c19; try clear c19b0; try clear c20; try clear c20b0; try clear c21; try clear p22; try clear q22; try clear c23; try clear c23b0; try clear c24; try clear c24b0; try clear c25; try clear p26; try clear q26; try clear c28; try clear c29; try clear c31; try clear c34; try clear c36; try clear hx36; try clear hf36; try clear p38; try clear q38; try clear hx38; try clear c39; try clear p39; try clear q39; try clear hx39; try clear p40; try clear q40; try clear hx40; try clear c41; try clear c43; try clear hx43; try clear hf43; try clear c47; try clear c51; try clear c51b0; try clear c52; try clear c52b0; try clear c53; try clear c53b0; try clear c54; try clear c54b0; try clear p56; try clear q56; try clear hx56; try clear hf56; try clear hcz30_0; try clear hcz30_1; try clear hcz30_2; try clear hcz30_3; try clear hcz48_0; try clear hcz48_1; try clear hcz50_0; try clear hcz50_1; try clear hfz30_0; try clear hfz30_1; try clear hfz30_2; try clear hfz30_3; try clear hfz48_0; try clear hfz48_1; try clear hfz50_0; try clear hfz50_1; try clear hx36_0; try clear hx389_0; try clear hx389_1; try clear hx389_2; try clear hx389_3; try clear hx391_0; try clear hx396_0; try clear hx404_0; try clear hx43_0; try clear hx56_0; try clear p2; try clear p22; try clear p26; try clear p3; try clear p38; try clear p389; try clear p39; try clear p391; try clear p396; try clear p404; try clear p56; try clear p6; try clear q2; try clear q22; try clear q26; try clear q3; try clear q38; try clear q389; try clear q39; try clear q391; try clear q396; try clear q404; try clear q56
          obtain ⟨x8_3, x11_3, HA, HK3, HO_5, HO_8, HO_11, BK382, BK385, HB⟩ := hrel
          have hl8_3 := (Kd.R_reads' HO_8.out).1
          rw [hl8_3] at HO_8
          (try simp only [hl8_3])
          (try simp only [hl8_3] at BK382)
          (try simp only [hl8_3] at BK385)
          (try simp only [hl8_3] at HO_5)
          (try simp only [hl8_3] at HO_11)
          cases gk with
          | zero => exact absurd HA.out (by simp [walk_Parts.l2])
          | succ k3 =>
           have H := HA.out
           clear HA
           simp only [walk_Parts.l2] at H
           by_cases c62 : (x11_3.length : Int) > 0
           ·
            rw [if_pos c62] at H
            have c62b0 : decide (0 < (x11_3.length : Int)) = true := decide_eq_true c62
            have c62b1 : decide (0 < x11_3.length) = true := decide_eq_true (by omega)
            clear c62
            obtain ⟨ji63, hji63⟩ : ∃ j_ : Int, (wrap64 ((x11_3.length : Int) - 1)) = j_ := ⟨_, rfl⟩
            replace H : (if 0 ≤ (ji63) then (if (ji63) < (x11_3.length : Int) then (if (ji63) ≤ (x11_3.length : Int) then (if 0 ≤ (rd x11_3 (ji63)) then (if (rd x11_3 (ji63)) < (x5_1.length : Int) then (walk_Parts.l3 k3 x5_1 x8_3 x9_2 (x11_3.take ((ji63) : Int).toNat) a0_0 x64_2 (rd_L2 x5_1 (rd x11_3 (ji63))) ((rd_L2 x5_1 (rd x11_3 (ji63))).length : Int) 0) else (none)) else (none)) else (none)) else (none)) else (none)) = some (r1, r2) := by first | (rw [hji63] at H; exact H) | (simp only [hji63] at H ⊢; exact H)
            have hji63w : (IntKind.i64.wrap ((x11_3.length : Int) - 1)) = ji63 := (i64_w _).trans hji63
            by_cases c64 : 0 ≤ (ji63)
            rotate_left
            ·
             rw [if_neg c64] at H
             exact absurd H (by simp)
            rw [if_pos c64] at H
            have c64b0 : decide (0 ≤ (ji63)) = true := decide_eq_true c64
            clear c64
            by_cases c65 : (ji63) < (x11_3.length : Int)
            rotate_left
            ·
             rw [if_neg c65] at H
             exact absurd H (by simp)
            rw [if_pos c65] at H
            have c65b0 : decide ((ji63) < (x11_3.length : Int)) = true := decide_eq_true c65
            clear c65
            by_cases c66 : (ji63) ≤ (x11_3.length : Int)
            rotate_left
            ·
             rw [if_neg c66] at H
             exact absurd H (by simp)
            rw [if_pos c66] at H
            have c66b0 := eq_true c66
            have c66b1 : decide ((ji63) ≤ (x11_3.length : Int)) = true := decide_eq_true c66
            clear c66
            obtain ⟨y410, hy410⟩ : ∃ y_ : List Int, y_ = (x11_3.take ((ji63) : Int).toNat) := ⟨_, rfl⟩
            replace H : (if 0 ≤ (rd x11_3 (ji63)) then (if (rd x11_3 (ji63)) < (x5_1.length : Int) then (walk_Parts.l3 k3 x5_1 x8_3 x9_2 y410 a0_0 x64_2 (rd_L2 x5_1 (rd x11_3 (ji63))) ((rd_L2 x5_1 (rd x11_3 (ji63))).length : Int) 0) else (none)) else (none)) = some (r1, r2) := by first | (rw [hy410]; exact H) | exact H
            have Ny410 := ak hy410
            clear hy410
            by_cases c67 : 0 ≤ (rd x11_3 (ji63))
            rotate_left
            ·
             rw [if_neg c67] at H
             exact absurd H (by simp)
            rw [if_pos c67] at H
            have c67b0 : decide (0 ≤ (rd x11_3 (ji63))) = true := decide_eq_true c67
            clear c67
            by_cases c68 : (rd x11_3 (ji63)) < (x5_1.length : Int)
            rotate_left
            ·
             rw [if_neg c68] at H
             exact absurd H (by simp)
            rw [if_pos c68] at H
            have c68b0 : decide ((rd x11_3 (ji63)) < (x5_1.length : Int)) = true := decide_eq_true c68
            clear c68
            have H' := ak H
            clear H
            obtain ⟨Ao69, co69, eo69⟩ := Kd.R_slice HO_11.out
            subst eo69
            have p409 : 0 ≤ ((ji63) : Int) := oda
            have q409 : (ji63) < (x11_3.length : Int) := oda
            obtain ⟨ad409, e409, hx409_0⟩ := Kd.at_int (Kd.R_reads' HO_11.out).2.2 (ji63) p409 q409
            cases e409
            replace p409 := eq_true p409
            replace q409 := eq_true q409
            have q70 : ((ji63) : Int) ≤ ((x11_3.length : Int) : Int) := oda
            obtain ⟨i070, hi070, _, hsz70, _⟩ := info_parts info3
            have hcut70 := cut_to (P := Try.prog) 26 3 .i64 Try.underlying26 hi070 (some ad409) x11_3.length co69 (ji63) (oda) q70 (Kd.R_reads' HO_11.out).2.1
            have hr70 := Kd.R_take (m := ((ji63) : Int).toNat) HO_11.out (by omega)
            have hy70 : y410.length = ((ji63) : Int).toNat := (by rw [Ny410.out, List.length_take]; omega)
            rw [← Ny410.out] at hr70
            rw [← hy70] at hr70 hcut70
            clear hy70 hi070 hsz70 HO_11
            have HO412 := ak hr70
            clear hr70
            replace q70 := eq_true q70
            obtain ⟨Ao71, co71, eo71⟩ := Kd.S_slice HO_5.out
            subst eo71
            have p413 : 0 ≤ ((rd x11_3 (ji63)) : Int) := oda
            have q413 : (rd x11_3 (ji63)) < (x5_1.length : Int) := oda
            obtain ⟨ad413, A413_0, c413_0, e413, hx413_0, hl413_0, hi413_0⟩ := at_L2 (Kd.S_reads' HO_5.out).2.2 (rd x11_3 (ji63)) p413 q413
            cases e413
            obtain ⟨ce413, hce413, hMe413, hcc413⟩ := Kd.S_get HO_5.out [] (rd x11_3 (ji63)) p413 (by first | exact q413 | exact oda | (have e_ := (Kd.S_reads' HO_5.out).1; omega))
            obtain ⟨ve413_0, rfl, ge413_0⟩ := hMe413
            have hv413_0 := hcc413 0 _ rfl
            rw [Nat.add_zero, show ((Kd.slice 3 (Kd.int .i64))).sz = 1 from rfl, Nat.mul_one] at hv413_0
            replace hv413_0 := Option.some.inj (hv413_0.symm.trans hx413_0)
            rw [hv413_0] at ge413_0
            have HL413_0 := ak (show Kd.R (Kd.int .i64) 3 _ _ _ _ (rd_L2 x5_1 (rd x11_3 (ji63))) from ge413_0)
            clear hv413_0 ge413_0
            have HX413_0 := ak hx413_0
            clear hcc413 hce413
            have HR413_0 := ak hi413_0
            have HC413_0 := ak hl413_0
            clear hi413_0 hl413_0
            replace p413 := eq_true p413
            replace q413 := eq_true q413
            go_wp2
            go_loopg [11, 97] k3 (fun kq v11 v97 w' => ∃ (x8_4 : List Int) (x11_4 : List Int) (x97_4 : Int), v97 = .int .i64 x97_4 ∧ Aside0 (walk_Parts.l3 kq x5_1 x8_4 x9_2 x11_4 a0_0 x64_2 (rd_L2 x5_1 (rd x11_3 (ji63))) ((rd_L2 x5_1 (rd x11_3 (ji63))).length : Int) x97_4 = some (r1, r2)) ∧ Aside0 (kq ≤ k3) ∧ Aside0 (Kd.S (Kd.slice 3 (Kd.int .i64)) 26 w' w.heap.size (fun k_ => some k_ ≠ ((.slice (some ⟨go56, 0, none⟩) x8_3.length co57) : Value).ownBlock ∧ some k_ ≠ (v11 : Value).ownBlock) (.slice (some ad413) x5_1.length co71) x5_1) ∧ Aside0 (Kd.R (Kd.int .i64) 3 w' w.heap.size (fun k_ => some k_ ≠ ((.slice (some ⟨go56, 0, none⟩) x8_3.length co57) : Value).ownBlock ∧ some k_ ≠ (v11 : Value).ownBlock) (.slice A413_0 (rd_L2 x5_1 (rd x11_3 (ji63))).length c413_0) (rd_L2 x5_1 (rd x11_3 (ji63)))) ∧ Aside0 (Kd.R (Kd.int .i64) 3 w' w.heap.size (fun k_ => some k_ ≠ (v11 : Value).ownBlock) (.slice (some ⟨go56, 0, none⟩) x8_3.length co57) x8_4) ∧ Aside0 (Kd.R (Kd.int .i64) 3 w' w.heap.size (fun k_ => some k_ ≠ ((.slice (some ⟨go56, 0, none⟩) x8_3.length co57) : Value).ownBlock) v11 x11_4) ∧ Aside0 (w'.heap[gb382]? = some (.cells #[.int .i64 a0_0, (.slice A0_1 l0_1.length c0_1)] 24 (0, 0))) ∧ Aside0 (w'.heap[gb385]? = some (.cells #[.int .i64 t383, .int .i64 t384] 50 (0, 0))) ∧ Aside0 (Below w.heap.size w w'))
            case atStart => exact ⟨(x8_3), (y410), (0), (by first | rfl | (simp [*]; done)), H', ⟨Nat.le_refl _⟩, ⟨by (try simp only [hl8_3]); exact sx HO_5.out⟩, ⟨by (try simp only [hl8_3]); (with_reducible repeat (first | apply Kd.R_alloc | apply Kd.R_drewN | apply Kd.R_drew)); exact (Kd.R_mono HL413_0.out (fun _ hk_ => hk_.1))⟩, ⟨by (try simp only [hl8_3]); exact rx HO_8.out⟩, ⟨by (try simp only [hl8_3]); exact rx HO412.out⟩, ⟨by (try simp only [hl8_3]); exact bx BK382.out⟩, ⟨by (try simp only [hl8_3]); exact bx BK385.out⟩, ⟨lb⟩⟩
            case round =>
             clear H'
             try clear c1; try clear c2; try clear p2; try clear q2; try clear c3; try clear p3; try clear q3; try clear hx3; try clear hf3; try clear c4; try clear p4; try clear q4; try clear hx4; try clear hf4; try clear c5; try clear p5; try clear q5; try clear hx5; try clear hf5; try clear c6; try clear p6; try clear q7; try clear c16; try clear c16b0; try clear c17; try clear c17b0; try clear c18; try clear c18b0; try clear c19; try clear c19b0; try clear c20; try clear c20b0; try clear c21; try clear p22; try clear q22; try clear c23; try clear c23b0; try clear c24; try clear c24b0; try clear c25; try clear p26; try clear q26; try clear c28; try clear c29; try clear c31; try clear c34; try clear c36; try clear hx36; try clear hf36; try clear p38; try clear q38; try clear hx38; try clear c39; try clear p39; try clear q39; try clear hx39; try clear p40; try clear q40; try clear hx40; try clear c41; try clear p41; try clear q41; try clear hx41; try clear c43; try clear hx43; try clear hf43; try clear c47; try clear c51; try clear c51b0; try clear c52; try clear c52b0; try clear c53; try clear c53b0; try clear c54; try clear c54b0; try clear p56; try clear q56; try clear hx56; try clear hf56; try clear c62; try clear c62b0; try clear c62b1; try clear c64; try clear c64b0; try clear p64; try clear c65; try clear c65b0; try clear c66; try clear c66b0; try clear c66b1; try clear c67; try clear c67b0; try clear c68; try clear c68b0; try clear q70; try clear hcz30_0; try clear hcz30_1; try clear hcz30_2; try clear hcz30_3; try clear hcz48_0; try clear hcz48_1; try clear hcz50_0; try clear hcz50_1; try clear hfz30_0; try clear hfz30_1; try clear hfz30_2; try clear hfz30_3; try clear hfz48_0; try clear hfz48_1; try clear hfz50_0; try clear hfz50_1; try clear hx36_0; try clear hx389_0; try clear hx389_1; try clear hx389_2; try clear hx389_3; try clear hx391_0; try clear hx396_0; try clear hx404_0; try clear hx409_0; try clear hx413_0; try clear hx43_0; try clear hx56_0; try clear p2; try clear p22; try clear p26; try clear p3; try clear p38; try clear p389; try clear p39; try clear p391; try clear p396; try clear p4; try clear p40; try clear p404; try clear p409; try clear p413; try clear p5; try clear p56; try clear p6; try clear q2; try clear q22; try clear q26; try clear q3; try clear q38; try clear q389; try clear q39; try clear q391; try clear q396; try clear q4; try clear q40; try clear q404; try clear q409; try clear q413; try clear q5; try clear q56; try clear q70
             obtain ⟨x8_4, x11_4, x97_4, rfl, HA, HK4, HO_5, HL413_0, HO_8, HO_11, BK382, BK385, HB⟩ := hrel
             have hl8_4 := (Kd.R_reads' HO_8.out).1
             rw [hl8_4] at HO_8
             (try simp only [hl8_4])
             (try simp only [hl8_4] at BK382)
             (try simp only [hl8_4] at BK385)
             (try simp only [hl8_4] at HO_5)
             (try simp only [hl8_4] at HL413_0)
             (try simp only [hl8_4] at HO_11)
             cases gk with
             | zero => exact absurd HA.out (by simp [walk_Parts.l3])
             | succ k4 =>
              have H := HA.out
              clear HA
              simp only [walk_Parts.l3] at H
              by_cases c72 : x97_4 < ((rd_L2 x5_1 (rd x11_3 (ji63))).length : Int)
              ·
               rw [if_pos c72] at H
               have c72b0 : decide (x97_4 < ((rd_L2 x5_1 (rd x11_3 (ji63))).length : Int)) = true := decide_eq_true c72
               clear c72
               by_cases c73 : 0 ≤ x97_4
               rotate_left
               ·
                rw [if_neg c73] at H
                exact absurd H (by simp)
               rw [if_pos c73] at H
               have c73b0 : decide (0 ≤ x97_4) = true := decide_eq_true c73
               clear c73
               by_cases c74 : x97_4 < ((rd_L2 x5_1 (rd x11_3 (ji63))).length : Int)
               rotate_left
               ·
                rw [if_neg c74] at H
                exact absurd H (by simp)
               rw [if_pos c74] at H
               have c74b0 : decide (x97_4 < ((rd_L2 x5_1 (rd x11_3 (ji63))).length : Int)) = true := decide_eq_true c74
               clear c74
               by_cases c75 : 0 ≤ (rd (rd_L2 x5_1 (rd x11_3 (ji63))) x97_4)
               rotate_left
               ·
                rw [if_neg c75] at H
                exact absurd H (by simp)
               rw [if_pos c75] at H
               have c75b0 : decide (0 ≤ (rd (rd_L2 x5_1 (rd x11_3 (ji63))) x97_4)) = true := decide_eq_true c75
               clear c75
               by_cases c76 : (rd (rd_L2 x5_1 (rd x11_3 (ji63))) x97_4) < (x8_4.length : Int)
               rotate_left
               ·
                rw [if_neg c76] at H
                exact absurd H (by simp)
               rw [if_pos c76] at H
               have c76b0 : decide ((rd (rd_L2 x5_1 (rd x11_3 (ji63))) x97_4) < (x8_4.length : Int)) = true := decide_eq_true c76
               clear c76
               by_cases c77 : (rd x8_4 (rd (rd_L2 x5_1 (rd x11_3 (ji63))) x97_4)) < 0
               ·
                rw [if_pos c77] at H
                have c77b0 : decide ((rd x8_4 (rd (rd_L2 x5_1 (rd x11_3 (ji63))) x97_4)) < 0) = true := decide_eq_true c77
                clear c77
                obtain ⟨y416, hy416⟩ : ∃ y_ : List Int, y_ = (x8_4.set ((rd (rd_L2 x5_1 (rd x11_3 (ji63))) x97_4) : Int).toNat x9_2) := ⟨_, rfl⟩
                replace H : (if x11_4.length < 17592186044416 then (walk_Parts.l3 k4 x5_1 y416 x9_2 (x11_4 ++ [rd (rd_L2 x5_1 (rd x11_3 (ji63))) x97_4]) a0_0 x64_2 (rd_L2 x5_1 (rd x11_3 (ji63))) ((rd_L2 x5_1 (rd x11_3 (ji63))).length : Int) (wrap64 (x97_4 + 1))) else (none)) = some (r1, r2) := by first | (rw [hy416]; exact H) | exact H
                have Ny416 := ak hy416
                clear hy416
                by_cases c79 : x11_4.length < 17592186044416
                rotate_left
                ·
                 rw [if_neg c79] at H
                 exact absurd H (by simp)
                rw [if_pos c79] at H
                have LMc79 := ak c79
                clear c79
                obtain ⟨y417, hy417⟩ : ∃ y_ : List Int, y_ = (x11_4 ++ [rd (rd_L2 x5_1 (rd x11_3 (ji63))) x97_4]) := ⟨_, rfl⟩
                replace H : (walk_Parts.l3 k4 x5_1 y416 x9_2 y417 a0_0 x64_2 (rd_L2 x5_1 (rd x11_3 (ji63))) ((rd_L2 x5_1 (rd x11_3 (ji63))).length : Int) (wrap64 (x97_4 + 1))) = some (r1, r2) := by first | (rw [hy417]; exact H) | exact H
                have Ny417 := ak hy417
                clear hy417
                have H' := ak H
                clear H
                have p414 : 0 ≤ (x97_4 : Int) := oda
                have q414 : x97_4 < ((rd_L2 x5_1 (rd x11_3 (ji63))).length : Int) := oda
                obtain ⟨ad414, e414, hx414_0⟩ := Kd.at_int (Kd.R_reads' HL413_0.out).2.2 x97_4 p414 q414
                cases e414
                (try replace hx414_0 := (HB.out.cell (World.block_lt_of_cell? w _ hx414_0)).trans hx414_0)
                replace p414 := eq_true p414
                replace q414 := eq_true q414
                have p415 : 0 ≤ ((rd (rd_L2 x5_1 (rd x11_3 (ji63))) x97_4) : Int) := oda
                have q415 : (rd (rd_L2 x5_1 (rd x11_3 (ji63))) x97_4) < (x8_4.length : Int) := oda
                obtain ⟨ad415, e415, hx415_0⟩ := Kd.at_int (Kd.R_reads' HO_8.out).2.2 (rd (rd_L2 x5_1 (rd x11_3 (ji63))) x97_4) p415 q415
                obtain rfl : (⟨go56, 0, none⟩ : Addr) = ad415 := (by injection e415)
                (first | simp only [add_plain] at hx415_0 | simp only [add_at] at hx415_0 | simp only [Addr.add, Nat.zero_add] at hx415_0 | skip)
                replace p415 := eq_true p415
                replace q415 := eq_true q415
                have p78 : 0 ≤ ((rd (rd_L2 x5_1 (rd x11_3 (ji63))) x97_4) : Int) := oda
                have q78 : ((rd (rd_L2 x5_1 (rd x11_3 (ji63))) x97_4) : Int) < ((x8_4.length : Int) : Int) := oda
                obtain ⟨hx78_0, hf78_0⟩ := Kd.R_celln 0 HO_8.out ((rd (rd_L2 x5_1 (rd x11_3 (ji63))) x97_4) : Int) p78 q78
                replace p78 := eq_true p78
                replace q78 := eq_true q78
                have HP80 := Kd.R_putg HO_8.out ((rd (rd_L2 x5_1 (rd x11_3 (ji63))) x97_4) : Int) x9_2
                go_wp2_with (first | ((with_reducible refine gate_store (t := 3) (p := 109) rfl ?_); refine store_event (t := 3) (p := 109) (v := ?vo_w81) (w1 := (wr.setCell ⟨go56, ((rd (rd_L2 x5_1 (rd x11_3 (ji63))) x97_4) : Int).toNat, none⟩ (.int .i64 x9_2))) ?hg ?ho ?hn ?hr ?_; (case ho => rfl); (case hg => rfl); (case hn => rfl); (case hr => first | (go_simp; done) | (go_simp; rfl)); intro w81 hw; have hg : wr.grownBy w81 (some go56) := (by rw [hw]; exact HP80.2); have hp_ : Kd.R (Kd.int .i64) 3 w81 w.heap.size (fun k_ => some k_ ≠ (u11 : Value).ownBlock) (.slice (some ⟨go56, 0, none⟩) x8_4.length co57) y416 := (by rw [hw, Ny416.out]; exact HP80.1); clear HP80; have n0_ := ak (Kd.S_after (v := (.slice (some ⟨go56, 0, none⟩) x8_4.length co57)) (v1 := (.slice (some ⟨go56, 0, none⟩) x8_4.length co57)) (ok := (fun k_ => some k_ ≠ (u11 : Value).ownBlock)) (by exact sx (Kd.S_mono HO_5.out (fun _ hk => ⟨hk.2, hk.1⟩))) hg (.inl rfl)); have n0_L := ak (Kd.R_after (v := (.slice (some ⟨go56, 0, none⟩) x8_4.length co57)) (v1 := (.slice (some ⟨go56, 0, none⟩) x8_4.length co57)) (ok := (fun k_ => some k_ ≠ (u11 : Value).ownBlock)) (by exact rx (Kd.R_mono HL413_0.out (fun _ hk => ⟨hk.2, hk.1⟩))) hg (.inl rfl)); have n1_ := ak (hp_); have n2_ := ak (Kd.R_after (v := (.slice (some ⟨go56, 0, none⟩) x8_4.length co57)) (v1 := (.slice (some ⟨go56, 0, none⟩) x8_4.length co57)) (ok := (fun _ => True)) (by exact rx (Kd.R_mono HO_11.out (fun _ hk => ⟨trivial, hk⟩))) hg (.inl rfl)); have n3_ := ak (blk_grown (bx BK382.out) hg (Kd.R_ne HO_8.out BK382.out (by decide))); have n4_ := ak (blk_grown (bx BK385.out) hg (Kd.R_ne HO_8.out BK385.out (by decide))); have n5_ := ak ((by rw [hw]; exact below_set (HB.out) GB56.out : Below w.heap.size w w81)); clear HO_5; clear HL413_0; clear HO_8; clear HO_11; clear BK382; clear BK385; clear HB; have HO_5 := n0_; have HL413_0 := n0_L; have HO_8 := n1_; have HO_11 := n2_; have BK382 := n3_; have BK385 := n4_; have HB := n5_; clear n0_ n1_ n2_ n3_ n4_ n5_; clear hg hw hp_) | ((with_reducible refine gate_builtin (b := .append) (xs := #[.tmp 110, .tmp 112]) rfl ?_); at_builtin; refine Kd.R_append (Kd.int .i64) (w0 := w) w.heap.size rfl (.tmp 110) (.tmp 112) 26 3 (.int .i64 0) 8 rfl Try.underlying26 info3 rfl (by decide) (by omega) u11 x11_4 (rd (rd_L2 x5_1 (rd x11_3 (ji63))) x97_4) [.int .i64 (rd (rd_L2 x5_1 (rd x11_3 (ji63))) x97_4)] (fun k_ => some k_ ≠ (.slice (some ⟨go56, 0, none⟩) x8_4.length co57 : Value).ownBlock) (fun _ => False) rfl rfl ?aP (fun _ hk => hk.elim) ?aF ?aO ?aB ?aS ?aL ?_; (case aP => exact rfl); (case aB => exact lb); (case aF => exact (fun k_ hk => Kd.fresh' (Kd.R_lt (rx HO_8.out)) k_ hk)); (case aO => exact (by exact rx (Kd.R_mono HO_11.out (fun _ hk => hk.2)))); (case aS => exact (below_size lb)); (case aL => have := LMc79.out; omega); intro v418 w82 ho hb hg hat; rw [← Ny417.out] at ho; have n0_ := ak (Kd.S_after (ok := (fun k_ => some k_ ≠ (.slice (some ⟨go56, 0, none⟩) x8_4.length co57 : Value).ownBlock)) (by exact sx (Kd.S_mono HO_5.out (fun _ hk => ⟨hk.2, hk.1⟩))) hg hat); have n0_L := ak (Kd.R_after (ok := (fun k_ => some k_ ≠ (.slice (some ⟨go56, 0, none⟩) x8_4.length co57 : Value).ownBlock)) (by exact rx (Kd.R_mono HL413_0.out (fun _ hk => ⟨hk.2, hk.1⟩))) hg hat); have n1_ := ak (Kd.R_after (ok := (fun _ => True)) (by exact rx (Kd.R_mono HO_8.out (fun _ hk => ⟨trivial, hk⟩))) hg hat); have n2_ := ak (blk_grown (bx BK382.out) hg (Kd.R_ne HO_11.out BK382.out (by decide))); have n3_ := ak (blk_grown (bx BK385.out) hg (Kd.R_ne HO_11.out BK385.out (by decide))); have n4_ := ak (hb); have n5_ := ak (ho); clear HO_5; clear HL413_0; clear HO_8; clear BK382; clear BK385; clear HB; clear HO_11; have HO_5 := n0_; have HL413_0 := n0_L; have HO_8 := n1_; have BK382 := n2_; have BK385 := n3_; have HB := n4_; have HO419 := n5_; clear n0_ n1_ n2_ n3_ n4_ n5_; clear ho hb hg hat))
                (try simp only [← hl8_4])
                go_roundg k4
                case measure => have := HK1.out; have := HK2.out; have := HK3.out; have := HK4.out; omega
                case rel => exact ⟨(y416), (y417), (wrap64 (x97_4 + 1)), (by first | rfl | (simp [*]; done)), H', ⟨by have := HK1.out; have := HK2.out; have := HK3.out; have := HK4.out; omega⟩, ⟨by (try simp only [hl8_3]); (try simp only [hl8_4]); exact sx HO_5.out⟩, ⟨by (try simp only [hl8_3]); (try simp only [hl8_4]); exact rx HL413_0.out⟩, ⟨by (try simp only [hl8_3]); (try simp only [hl8_4]); exact rx (Kd.R_mono HO_8.out (fun _ hk => hk.2))⟩, ⟨by (try simp only [hl8_3]); (try simp only [hl8_4]); exact rx HO419.out⟩, ⟨by (try simp only [hl8_3]); (try simp only [hl8_4]); exact bx BK382.out⟩, ⟨by (try simp only [hl8_3]); (try simp only [hl8_4]); exact bx BK385.out⟩, ⟨lb⟩⟩
               ·
                rw [if_neg c77] at H
                have c77b0 : decide ((rd x8_4 (rd (rd_L2 x5_1 (rd x11_3 (ji63))) x97_4)) < 0) = false := decide_eq_false c77
                clear c77
                have H' := ak H
                clear H
                have p414 : 0 ≤ (x97_4 : Int) := oda
                have q414 : x97_4 < ((rd_L2 x5_1 (rd x11_3 (ji63))).length : Int) := oda
                obtain ⟨ad414, e414, hx414_0⟩ := Kd.at_int (Kd.R_reads' HL413_0.out).2.2 x97_4 p414 q414
                cases e414
                (try replace hx414_0 := (HB.out.cell (World.block_lt_of_cell? w _ hx414_0)).trans hx414_0)
                replace p414 := eq_true p414
                replace q414 := eq_true q414
                have p415 : 0 ≤ ((rd (rd_L2 x5_1 (rd x11_3 (ji63))) x97_4) : Int) := oda
                have q415 : (rd (rd_L2 x5_1 (rd x11_3 (ji63))) x97_4) < (x8_4.length : Int) := oda
                obtain ⟨ad415, e415, hx415_0⟩ := Kd.at_int (Kd.R_reads' HO_8.out).2.2 (rd (rd_L2 x5_1 (rd x11_3 (ji63))) x97_4) p415 q415
                obtain rfl : (⟨go56, 0, none⟩ : Addr) = ad415 := (by injection e415)
                (first | simp only [add_plain] at hx415_0 | simp only [add_at] at hx415_0 | simp only [Addr.add, Nat.zero_add] at hx415_0 | skip)
                replace p415 := eq_true p415
                replace q415 := eq_true q415
                go_wp2
                (try simp only [← hl8_4])
                go_roundg k4
                case measure => have := HK1.out; have := HK2.out; have := HK3.out; have := HK4.out; omega
                case rel => exact ⟨(x8_4), (x11_4), (wrap64 (x97_4 + 1)), (by first | rfl | (simp [*]; done)), H', ⟨by have := HK1.out; have := HK2.out; have := HK3.out; have := HK4.out; omega⟩, ⟨by (try simp only [hl8_3]); (try simp only [hl8_4]); exact sx HO_5.out⟩, ⟨by (try simp only [hl8_3]); (try simp only [hl8_4]); exact rx HL413_0.out⟩, ⟨by (try simp only [hl8_3]); (try simp only [hl8_4]); exact rx HO_8.out⟩, ⟨by (try simp only [hl8_3]); (try simp only [hl8_4]); exact rx HO_11.out⟩, ⟨by (try simp only [hl8_3]); (try simp only [hl8_4]); exact bx BK382.out⟩, ⟨by (try simp only [hl8_3]); (try simp only [hl8_4]); exact bx BK385.out⟩, ⟨lb⟩⟩
              ·
               rw [if_neg c72] at H
               have c72b0 : decide (x97_4 < ((rd_L2 x5_1 (rd x11_3 (ji63))).length : Int)) = false := decide_eq_false c72
               clear c72
               have H' := ak H
               clear H
               go_wp2
               (try simp only [← hl8_3, ← hl8_4])
               go_roundg k4
               case measure => have := HK1.out; have := HK2.out; have := HK3.out; have := HK4.out; omega
               case rel => exact ⟨(x8_4), (x11_4), H', ⟨by have := HK1.out; have := HK2.out; have := HK3.out; have := HK4.out; omega⟩, ⟨by (try simp only [hl8_3]); (try simp only [hl8_4]); exact sx HO_5.out⟩, ⟨by (try simp only [hl8_3]); (try simp only [hl8_4]); exact rx HO_8.out⟩, ⟨by (try simp only [hl8_3]); (try simp only [hl8_4]); exact rx HO_11.out⟩, ⟨by (try simp only [hl8_3]); (try simp only [hl8_4]); exact bx BK382.out⟩, ⟨by (try simp only [hl8_3]); (try simp only [hl8_4]); exact bx BK385.out⟩, ⟨lb⟩⟩
           ·
            rw [if_neg c62] at H
            have c62b0 : decide (0 < (x11_3.length : Int)) = false := decide_eq_false c62
            have c62b1 : decide (0 < x11_3.length) = false := decide_eq_false (by omega)
            clear c62
            have H' := ak H
            clear H
            obtain ⟨Ao83, co83, eo83⟩ := Kd.R_slice HO_11.out
            subst eo83
            go_wp2
            (try simp only [← hl8_3])
            go_roundg k3
            case measure => have := HK1.out; have := HK2.out; have := HK3.out; omega
            case rel => exact ⟨(x8_3), (wrap64 (x9_2 + 1)), (wrap64 (x64_2 + 1)), (by first | rfl | (simp [*]; done)), (by first | rfl | (simp [*]; done)), H', ⟨by have := HK1.out; have := HK2.out; have := HK3.out; omega⟩, ⟨by (try simp only [hl8_3]); exact sx (Kd.S_mono HO_5.out (fun _ hk => hk.1))⟩, ⟨by (try simp only [hl8_3]); exact rx (Kd.R_mono HO_8.out (fun _ hk => trivial))⟩, ⟨by (try simp only [hl8_3]); exact bx BK382.out⟩, ⟨by (try simp only [hl8_3]); exact bx BK385.out⟩, ⟨lb⟩⟩
       ·
        rw [if_neg c51] at H
        have c51b0 : decide (x64_2 < a0_0) = false := decide_eq_false c51
        clear c51
        simp only [Option.some.injEq, Prod.mk.injEq] at H
        obtain ⟨rfl, rfl⟩ := H
        go_wp2
        go_ret2
        exact ⟨_, by first | rfl | (simp [errW_none, errW_some] <;> rfl) | (simp [*, errW_none, errW_some] <;> rfl), by exact rx HO_8.out, lb⟩
 ·
  rw [if_neg c3] at H
  have c3b0 : (t383 == 0) = false := beq_eq_false_iff_ne.mpr c3
  have c3b1 : (t383 != 0) = true := bne_iff_ne.mpr c3
  simp only [Option.some.injEq, Prod.mk.injEq] at H
  obtain ⟨rfl, rfl⟩ := H
  go_enter Try.func23, Try.ntmps23
  try go_wp2_with (first | ((with_reducible refine gate_dst (N := 1) rfl ?_); refine box_event ?hg (N := 1) ?hd (cs := #[.int .i64 a0_0, .slice A0_1 l0_1.length c0_1]) (t := 24) ?hr ?_; (case hd => rfl); (case hg => rfl); (case hr => first | (go_simp; done) | (go_simp; rfl)); intro gb382 hg w84 hbox hb; have n0_ := ak (below_step lb hb); have n1_ := ak (hbox); have n2_ := ak ((by rw [hg]; exact (below_size lb) : w.heap.size ≤ gb382)); have n3_ := ak ((by rw [hg]; exact (below_size lb) : w.heap.size ≤ gb382)); clear HB; have HB := n0_; have BK382 := n1_; have GW382 := n2_; have GE382 := n3_; clear n0_ n1_ n2_ n3_; clear hb hbox hg; have hcz85_0 : w84.cell? ⟨gb382, 0, none⟩ = some (.int .i64 a0_0) := (blk_cell BK382.out 0).trans rfl; have hcz85_1 : w84.cell? ⟨gb382, 1, none⟩ = some (.slice A0_1 l0_1.length c0_1) := (blk_cell BK382.out 1).trans rfl; have hfz85_0 := blk_frozen BK382.out 0; have hfz85_1 := blk_frozen BK382.out 1) | ((with_reducible refine gate_callee (f := 29) rfl ?_); refine goesL_ (some 16) rfl rfl Try.func29 (by kernel_rfl) rfl #[.agg #[.int .i64 a0_0, .slice A0_1 l0_1.length c0_1]] rfl (by (try simp only [List.map_toArray, List.map_cons, List.map_nil]); first | done | rfl | (simp only [List.length_drop, List.length_take]; rfl)) ?_; (with_reducible refine (graph_Check.calls k a0_0 _ _ l0_1 t383 t384 _ ?side1 ?side2 A2.out).mono ?_); (case side1 => repeat (first | exact (Kd.C_below HR0_1.out HB.out) | (with_reducible refine Kd.C_alloc ?_ _) | (with_reducible refine Kd.C_drewN ?_ _) | (with_reducible refine Kd.C_drew ?_))); (case side2 => exact HC0_1.out); rintro e w86 ⟨rfl, hb⟩; refine ⟨_, rfl, ?_⟩; have n0_ := ak (blk_below (bx BK382.out) hb); have n1_ := ak (below_step lb hb); clear BK382; clear HB; have BK382 := n0_; have HB := n1_; clear n0_ n1_; (try clear hb); (try clear hb2); (try clear hk); (try clear hi)) | ((with_reducible refine gate_dst (N := 4) rfl ?_); refine box_event ?hg (N := 4) ?hd (cs := #[.int .i64 0, .int .i64 0]) (t := 50) ?hr ?_; (case hd => rfl); (case hg => rfl); (case hr => first | (go_simp; done) | (go_simp; rfl)); intro gb385 hg w87 hbox hb; have n0_ := ak (blk_below (bx BK382.out) hb); have n1_ := ak (below_step lb hb); have n2_ := ak (hbox); have n3_ := ak ((by rw [hg]; exact (below_size lb) : w.heap.size ≤ gb385)); have n4_ := ak ((by rw [hg]; exact (below_size lb) : w.heap.size ≤ gb385)); have n5_ := ak ((by rw [hg]; exact Nat.ne_of_lt (blk_lt (g := gb382) (o := .cells #[.int .i64 a0_0, .slice A0_1 l0_1.length c0_1] 24 (0, 0)) (bx BK382.out)) : gb382 ≠ gb385)); have n6_ := ak ((by rw [hg]; exact Nat.ne_of_gt (blk_lt (g := gb382) (o := .cells #[.int .i64 a0_0, .slice A0_1 l0_1.length c0_1] 24 (0, 0)) (bx BK382.out)) : gb385 ≠ gb382)); clear BK382; clear HB; have BK382 := n0_; have HB := n1_; have BK385 := n2_; have GW385 := n3_; have GE385 := n4_; have NB382_385 := n5_; have NB385_382 := n6_; clear n0_ n1_ n2_ n3_ n4_ n5_ n6_; clear hb hbox hg; have hnb88 := NB385_382.out; have hnc88 := NB382_385.out; have hcz89_0 : w87.cell? ⟨gb385, 0, none⟩ = some (.int .i64 0) := (blk_cell BK385.out 0).trans rfl; have hcz89_1 : w87.cell? ⟨gb385, 1, none⟩ = some (.int .i64 0) := (blk_cell BK385.out 1).trans rfl; have hfz89_0 := blk_frozen BK385.out 0; have hfz89_1 := blk_frozen BK385.out 1))
  have n0_ : Aside0 (((w87.setCell ⟨gb385, 0, none⟩ (.int .i64 t383)).setCell ⟨gb385, 1, none⟩ (.int .i64 t384)).heap[gb382]? = some (.cells #[.int .i64 a0_0, .slice A0_1 l0_1.length c0_1] 24 (0, 0))) := ⟨by (with_reducible repeat (first | refine blk_drewN ?_ _ | refine blk_drew ?_ | refine blk_alloc ?_ _)); refine blk_far ?_ NB382_385.out _; (with_reducible repeat (first | refine blk_drewN ?_ _ | refine blk_drew ?_ | refine blk_alloc ?_ _)); refine blk_far ?_ NB382_385.out _; exact bx BK382.out⟩
  have n1_ : Aside0 (((w87.setCell ⟨gb385, 0, none⟩ (.int .i64 t383)).setCell ⟨gb385, 1, none⟩ (.int .i64 t384)).heap[gb385]? = some (.cells #[.int .i64 t383, .int .i64 t384] 50 (0, 0))) := ⟨by (with_reducible repeat (first | refine blk_drewN ?_ _ | refine blk_drew ?_ | refine blk_alloc ?_ _)); refine blk_put (cs := #[.int .i64 t383, .int .i64 0]) ?_ 1 _ rfl; (with_reducible repeat (first | refine blk_drewN ?_ _ | refine blk_drew ?_ | refine blk_alloc ?_ _)); refine blk_put (cs := #[.int .i64 0, .int .i64 0]) ?_ 0 _ rfl; exact bx BK385.out⟩
  have n2_ : Aside0 (Below w.heap.size w ((w87.setCell ⟨gb385, 0, none⟩ (.int .i64 t383)).setCell ⟨gb385, 1, none⟩ (.int .i64 t384))) := ⟨lb⟩
  (try clear BK382)
  (try clear BK385)
  (try clear HB)
  generalize ((w87.setCell ⟨gb385, 0, none⟩ (.int .i64 t383)).setCell ⟨gb385, 1, none⟩ (.int .i64 t384)) = w90 at n0_ n1_ n2_ ⊢
  have BK382 := n0_
  have BK385 := n1_
  have HB := n2_
  clear n0_ n1_ n2_
  have n0_ := ak (blk_drew BK382.out)
  have n1_ := ak (blk_drew BK385.out)
  have n2_ := ak (below_drew1 HB.out)
  clear BK382
  clear BK385
  clear HB
  have BK382 := n0_
  have BK385 := n1_
  have HB := n2_
  clear n0_ n1_ n2_
  refine start_ (n := 4) (S := fun w' => w'.cell? ⟨gb385, 0, none⟩ = some (.int .i64 t383) ∧ w'.cell? ⟨gb385, 1, none⟩ = some (.int .i64 t384)) (ds := []) #[false, false, false, false] (by kernel_rfl) rfl rfl ⟨(blk_cell BK385.out 0).trans rfl, (blk_cell BK385.out 1).trans rfl⟩ (fun hHeld => ?_)
  generalize w90.drew = w91 at BK382 BK385 HB hHeld ⊢
  refine pure_ (i := 0) (N := some 20) (v := ?_) (a' := ?_) #[true, false, false, false] rfl rfl (by kernel_rfl) (fun _ _ _ h => h) (Or.inl ⟨by rfl, ?_⟩) ?_ ?_; rotate_left; intro w'; go_simp; with_reducible rfl; rotate_left; simp only [Act.put, List.setIfInBounds_toArray, List.set_cons_zero, List.set_cons_succ, i64_w, i32_w]; rfl
  refine pure_ (i := 2) (N := some 2) (v := ?_) (a' := ?_) #[true, false, true, false] rfl rfl (by kernel_rfl) (fun _ _ _ h => h) (Or.inl ⟨by rfl, ?_⟩) ?_ ?_; rotate_left; intro w'; go_simp; with_reducible rfl; rotate_left; simp only [Act.put, List.setIfInBounds_toArray, List.set_cons_zero, List.set_cons_succ, i64_w, i32_w]; rfl
  refine take_ (i := 1) (N := some 21) (v := ?_) (a' := ?_) #[true, true, true, false] rfl rfl (by kernel_rfl) (fun _ _ _ h => h) (Or.inl ⟨by rfl, ?_⟩) hHeld ?_ ?_; rotate_left; rintro w' ⟨s0, s1⟩; go_simp; with_reducible rfl; rotate_left; simp only [Act.put, List.setIfInBounds_toArray, List.set_cons_zero, List.set_cons_succ, i64_w, i32_w]; rfl
  refine pure_ (i := 3) (N := some 3) (v := ?_) (a' := ?_) #[true, true, true, true] rfl rfl (by kernel_rfl) (fun _ _ _ h => h) (Or.inl ⟨by rfl, ?_⟩) ?_ ?_; rotate_left; intro w'; go_simp; with_reducible rfl; rotate_left; simp only [Act.put, List.setIfInBounds_toArray, List.set_cons_zero, List.set_cons_succ, i64_w, i32_w]; rfl
  refine done_ (by kernel_rfl) ?_
  try go_wp2
  go_ret2
  exact ⟨_, by first | rfl | (simp [errW_none, errW_some] <;> rfl) | (simp [*, errW_none, errW_some] <;> rfl), by first | exact Kd.R_nil _ _ _ _ _ | exact Kd.N_nil _ _ _ _ _ | exact Kd.V_nil _ _ _ _ _ | exact Kd.Q_nil _ _ _ _ _ | exact Kd.S_nil _ _ _ _ _, lb⟩

end Go.Proofs.Ytacklfnnpiobgaa.Q
