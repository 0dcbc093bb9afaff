-- PRINTED by print.py (a twelfth state) out of the translation. Not trusted: Lean checks it.
import Derived.Test.YtacklfnnpiobgaaQ0
import Derived.Test.YtacklfnnpiobgaaQ11
import Derived.Test.YtacklfnnpiobgaaQ19
namespace Go.Proofs.Ytacklfnnpiobgaa.Q
open Go.RowKit Go.Proofs.YtacklfnnpiobgaaW.PrintWords Go.Proofs.YtacklfnnpiobgaaW.PrintLast Go.Proofs.YtacklfnnpiobgaaW.PrintMore
attribute [local go_sem] max2_int min2_int max_two min_two max_three min_three max_four min_four   -- for this text's walks alone
set_option linter.unusedVariables false
set_option linter.unusedSimpArgs false

/-! ### compassref04_Parts: function 24 -/
mutual
def compassref04_Parts.l0 : Nat → List Int → Int → Int → List (S41) → Option (List Int × Int)
  | 0, _, _, _, _ => none
  | k + 1, x6, x7, x429000, x429001 => if x7 < x429000 then (if 0 ≤ x7 then (if x7 < (x6.length : Int) then (compassref04_Parts.l0 k (x6.set (x7 : Int).toNat x7) (wrap64 (x7 + 1)) x429000 x429001) else (none)) else (none)) else (compassref04_Parts.l1 k x6 0 x429000 x429001)
def compassref04_Parts.l1 : Nat → List Int → Int → Int → List (S41) → Option (List Int × Int)
  | 0, _, _, _, _ => none
  | k + 1, x6, x8, x429000, x429001 => if x8 < x429000 then (compassref04_Parts.l2 k x6 x8 0 x429000 x429001) else ((compassref04_Numbered.f k x6).bind fun t435 => (some (t435, 0)))
def compassref04_Parts.l2 : Nat → List Int → Int → Int → Int → List (S41) → Option (List Int × Int)
  | 0, _, _, _, _, _ => none
  | k + 1, x6, x8, x9, x429000, x429001 => if x9 < (x429001.length : Int) then (if 0 ≤ x9 then (if 0 ≤ ((rd_T41 x429001 x9).f0) then (if ((rd_T41 x429001 x9).f0) < (x6.length : Int) then (if 0 ≤ ((rd_T41 x429001 x9).f1) then (if ((rd_T41 x429001 x9).f1) < (x6.length : Int) then (if (rd x6 ((rd_T41 x429001 x9).f0)) < (rd x6 ((rd_T41 x429001 x9).f1)) then (compassref04_Parts.l2 k (x6.set (((rd_T41 x429001 x9).f1) : Int).toNat (rd x6 ((rd_T41 x429001 x9).f0))) x8 (wrap64 (x9 + 1)) x429000 x429001) else (compassref04_Parts.l2 k (x6.set (((rd_T41 x429001 x9).f0) : Int).toNat (rd x6 ((rd_T41 x429001 x9).f1))) x8 (wrap64 (x9 + 1)) x429000 x429001)) else (none)) else (none)) else (none)) else (none)) else (none)) else (compassref04_Parts.l1 k x6 (wrap64 (x8 + 1)) x429000 x429001)
end
def compassref04_Parts.f (k : Nat) (a0_0 : Int) (l0_1 : List (S41)) : Option (List Int × Int) := (compassref03_Check.f k a0_0 l0_1).bind fun bt429 => (if bt429.1 = 0 then (if 0 ≤ a0_0 then (if (a0_0 : Int).toNat ≤ 35184372088832 then (compassref04_Parts.l0 k (List.replicate (a0_0 : Int).toNat 0) 0 a0_0 l0_1) else (none)) else (none)) else (some (([] : List Int), bt429.1)))
theorem compassref04_Parts.mono_l : ∀ k, (∀ y0 y1 y2 y3, LeO (compassref04_Parts.l0 k y0 y1 y2 y3) (compassref04_Parts.l0 (k + 1) y0 y1 y2 y3)) ∧ (∀ y0 y1 y2 y3, LeO (compassref04_Parts.l1 k y0 y1 y2 y3) (compassref04_Parts.l1 (k + 1) y0 y1 y2 y3)) ∧ (∀ y0 y1 y2 y3 y4, LeO (compassref04_Parts.l2 k y0 y1 y2 y3 y4) (compassref04_Parts.l2 (k + 1) y0 y1 y2 y3 y4))
  | 0 => ⟨fun _ _ _ _ r h => by simp [compassref04_Parts.l0] at h, fun _ _ _ _ r h => by simp [compassref04_Parts.l1] at h, fun _ _ _ _ _ r h => by simp [compassref04_Parts.l2] at h⟩
  | k + 1 => by
    obtain ⟨ih0, ih1, ih2⟩ := compassref04_Parts.mono_l k
    refine ⟨?_, ?_, ?_⟩
    · intro y0 y1 y2 y3
      unfold compassref04_Parts.l0
      repeat' first
      | (with_reducible exact ih0 _ _ _ _)
      | (with_reducible exact ih1 _ _ _ _)
      | (with_reducible exact ih2 _ _ _ _ _)
      | (with_reducible exact compassref03_Check.mono _ _ _)
      | (with_reducible exact compassref04_Numbered.mono _ _)
      | (with_reducible exact LeO.refl _)
      | (with_reducible exact LeO.none _)
      | (with_reducible refine LeO.ite ?_ ?_)
      | (with_reducible refine LeO.bind ?_ (fun _ => ?_))
      | exact ih0 _ _ _ _
      | exact ih1 _ _ _ _
      | exact ih2 _ _ _ _ _
      | exact compassref03_Check.mono _ _ _
      | exact compassref04_Numbered.mono _ _
      | exact LeO.none _
      | refine LeO.ite ?_ ?_
      | refine LeO.bind ?_ (fun _ => ?_)
    · intro y0 y1 y2 y3
      unfold compassref04_Parts.l1
      repeat' first
      | (with_reducible exact ih0 _ _ _ _)
      | (with_reducible exact ih1 _ _ _ _)
      | (with_reducible exact ih2 _ _ _ _ _)
      | (with_reducible exact compassref03_Check.mono _ _ _)
      | (with_reducible exact compassref04_Numbered.mono _ _)
      | (with_reducible exact LeO.refl _)
      | (with_reducible exact LeO.none _)
      | (with_reducible refine LeO.ite ?_ ?_)
      | (with_reducible refine LeO.bind ?_ (fun _ => ?_))
      | exact ih0 _ _ _ _
      | exact ih1 _ _ _ _
      | exact ih2 _ _ _ _ _
      | exact compassref03_Check.mono _ _ _
      | exact compassref04_Numbered.mono _ _
      | exact LeO.none _
      | refine LeO.ite ?_ ?_
      | refine LeO.bind ?_ (fun _ => ?_)
    · intro y0 y1 y2 y3 y4
      unfold compassref04_Parts.l2
      repeat' first
      | (with_reducible exact ih0 _ _ _ _)
      | (with_reducible exact ih1 _ _ _ _)
      | (with_reducible exact ih2 _ _ _ _ _)
      | (with_reducible exact compassref03_Check.mono _ _ _)
      | (with_reducible exact compassref04_Numbered.mono _ _)
      | (with_reducible exact LeO.refl _)
      | (with_reducible exact LeO.none _)
      | (with_reducible refine LeO.ite ?_ ?_)
      | (with_reducible refine LeO.bind ?_ (fun _ => ?_))
      | exact ih0 _ _ _ _
      | exact ih1 _ _ _ _
      | exact ih2 _ _ _ _ _
      | exact compassref03_Check.mono _ _ _
      | exact compassref04_Numbered.mono _ _
      | exact LeO.none _
      | refine LeO.ite ?_ ?_
      | refine LeO.bind ?_ (fun _ => ?_)
theorem compassref04_Parts.mono : ∀ a0 a1 k, LeO (compassref04_Parts.f k a0 a1) (compassref04_Parts.f (k + 1) a0 a1) := by
  intro a0 a1 k
  obtain ⟨ih0, ih1, ih2⟩ := compassref04_Parts.mono_l k
  unfold compassref04_Parts.f
  repeat' first
      | (with_reducible exact ih0 _ _ _ _)
      | (with_reducible exact ih1 _ _ _ _)
      | (with_reducible exact ih2 _ _ _ _ _)
      | (with_reducible exact compassref03_Check.mono _ _ _)
      | (with_reducible exact compassref04_Numbered.mono _ _)
      | (with_reducible exact LeO.refl _)
      | (with_reducible exact LeO.none _)
      | (with_reducible refine LeO.ite ?_ ?_)
      | (with_reducible refine LeO.bind ?_ (fun _ => ?_))
      | exact ih0 _ _ _ _
      | exact ih1 _ _ _ _
      | exact ih2 _ _ _ _ _
      | exact compassref03_Check.mono _ _ _
      | exact compassref04_Numbered.mono _ _
      | exact LeO.none _
      | refine LeO.ite ?_ ?_
      | refine LeO.bind ?_ (fun _ => ?_)
set_option maxHeartbeats 8000000 in
set_option maxRecDepth 100000 in
theorem compassref04_Parts.calls (k : Nat) (a0_0 : Int) (A0_1 : Option Addr) (c0_1 : Nat) (l0_1 : List (S41)) (r1 : List Int) (r2 : Int) (w : World) (hr0_1 : Kd.C k41 w A0_1 l0_1.length l0_1) (hc0_1 : l0_1.length ≤ c0_1) (h : compassref04_Parts.f k a0_0 l0_1 = some (r1, r2)) :
    Calls Try.prog 24 #[.agg #[.int .i64 a0_0, .slice A0_1 l0_1.length c0_1]] w fun e w' => ∃ v0_ : Value, e = .returned (.tuple #[v0_, .int .i64 r2]) ∧ Kd.R (Kd.int .i64) 3 w' w.heap.size (fun _ => True) v0_ r1 ∧ Below w.heap.size w w' := by
 have hu24 := Try.underlying24
 have HR0_1 := ak hr0_1
 have HC0_1 := ak hc0_1
 clear hr0_1 hc0_1
 have HB := ak (Below.refl w.heap.size w)
 have H : ((compassref03_Check.f k a0_0 l0_1).bind fun bt429 => (if bt429.1 = 0 then (if 0 ≤ a0_0 then (if (a0_0 : Int).toNat ≤ 35184372088832 then (compassref04_Parts.l0 k (List.replicate (a0_0 : Int).toNat 0) 0 a0_0 l0_1) else (none)) else (none)) else (some (([] : List Int), bt429.1)))) = some (r1, r2) := h
 clear h
 replace H := Option.bind_eq_some_iff.mp H
 obtain ⟨⟨t429, t430⟩, A20, H⟩ := H
 replace H : (if t429 = 0 then (if 0 ≤ a0_0 then (if (a0_0 : Int).toNat ≤ 35184372088832 then (compassref04_Parts.l0 k (List.replicate (a0_0 : Int).toNat 0) 0 a0_0 l0_1) else (none)) else (none)) else (some (([] : List Int), t429))) = some (r1, r2) := H
 have A2 := ak A20
 clear A20
 by_cases c3 : t429 = 0
 ·
  rw [if_pos c3] at H
  have c3b0 : (t429 == 0) = true := beq_iff_eq.mpr c3
  have c3b1 : (t429 != 0) = false := bne_eq_false_iff_eq.mpr c3
  clear c3
  by_cases c4 : 0 ≤ a0_0
  rotate_left
  ·
   rw [if_neg c4] at H
   exact absurd H (by simp)
  rw [if_pos c4] at H
  have c4b0 := eq_true c4
  have c4b1 : decide (0 ≤ a0_0) = true := decide_eq_true c4
  clear c4
  by_cases c5 : (a0_0 : Int).toNat ≤ 35184372088832
  rotate_left
  ·
   rw [if_neg c5] at H
   exact absurd H (by simp)
  rw [if_pos c5] at H
  have c5b0 := eq_true c5
  have c5b1 : decide ((a0_0 : Int).toNat ≤ 35184372088832) = true := decide_eq_true c5
  clear c5
  obtain ⟨y431, hy431⟩ : ∃ y_ : List Int, y_ = (List.replicate (a0_0 : Int).toNat 0) := ⟨_, rfl⟩
  replace H : (compassref04_Parts.l0 k y431 0 a0_0 l0_1) = some (r1, r2) := by first | (rw [hy431]; exact H) | exact H
  have Ny431 := ak hy431
  clear hy431
  have H' := ak H
  clear H
  go_enter Try.func24, Try.ntmps24
  go_wp2_with (first | ((with_reducible refine gate_dst (N := 1) rfl ?_); refine box_event ?hg (N := 1) ?hd (cs := #[.int .i64 a0_0, .slice A0_1 l0_1.length c0_1]) (t := 24) ?hr ?_; (case hd => rfl); (case hg => rfl); (case hr => first | (go_simp; done) | (go_simp; rfl)); intro gb428 hg w6 hbox hb; have n0_ := ak (below_step lb hb); have n1_ := ak (hbox); have n2_ := ak ((by rw [hg]; exact (below_size lb) : w.heap.size ≤ gb428)); have n3_ := ak ((by rw [hg]; exact (below_size lb) : w.heap.size ≤ gb428)); clear HB; have HB := n0_; have BK428 := n1_; have GW428 := n2_; have GE428 := n3_; clear n0_ n1_ n2_ n3_; clear hb hbox hg; have hcz7_0 : w6.cell? ⟨gb428, 0, none⟩ = some (.int .i64 a0_0) := (blk_cell BK428.out 0).trans rfl; have hcz7_1 : w6.cell? ⟨gb428, 1, none⟩ = some (.slice A0_1 l0_1.length c0_1) := (blk_cell BK428.out 1).trans rfl; have hfz7_0 := blk_frozen BK428.out 0; have hfz7_1 := blk_frozen BK428.out 1) | (go_at_call 34; (with_reducible refine (compassref03_Check.calls k a0_0 _ _ l0_1 t429 t430 _ ?side1 ?side2 A2.out).mono ?_); (case side1 => repeat (first | exact (Kd.C_below HR0_1.out HB.out) | (with_reducible refine Kd.C_alloc ?_ _) | (with_reducible refine Kd.C_drewN ?_ _) | (with_reducible refine Kd.C_drew ?_))); (case side2 => exact HC0_1.out); rintro e w8 ⟨rfl, hb⟩; have n0_ := ak (blk_below (bx BK428.out) hb); have n1_ := ak (below_step lb hb); clear BK428; clear HB; have BK428 := n0_; have HB := n1_; clear n0_ n1_; (try clear hb); (try clear hb2); (try clear hk); (try clear hi); have hcz9_0 : w8.cell? ⟨gb428, 0, none⟩ = some (.int .i64 a0_0) := (blk_cell BK428.out 0).trans rfl; have hcz9_1 : w8.cell? ⟨gb428, 1, none⟩ = some (.slice A0_1 l0_1.length c0_1) := (blk_cell BK428.out 1).trans rfl; have hfz9_0 := blk_frozen BK428.out 0; have hfz9_1 := blk_frozen BK428.out 1) | ((with_reducible refine gate_dst (N := 22) rfl ?_); refine Kd.R_make (Kd.int .i64) _ 3 rfl (N := 22) rfl 26 _ _ rfl a0_0 rfl rfl Try.underlying26 (.int .i64 0) 8 info3 rfl (by decide) (by omega) 0 (ok := fun _ => True) (okp := fun _ => True) rfl (fun _ hk => hk) trivial (oda) (Nat.le_trans (Nat.mul_le_mul_right _ (oda : a0_0.toNat ≤ 35184372088832)) (by omega)) (Below.refl _ _) (Nat.le_refl _) ?_; intro v432 w10 ho11 hb hg_ hnew_; clear hg_ hnew_; (first | rw [← Ny431.out] at ho11 | (simp only [Int.reduceToNat] at ho11; rw [← Ny431.out] at ho11)); have n0_ := ak (Kd.R_lower ho11 (below_size lb)); have n1_ := ak (blk_below (bx BK428.out) hb); have n2_ := ak (below_step lb hb); clear BK428; clear HB; have HO433 := n0_; have BK428 := n1_; have HB := n2_; clear n0_ n1_ n2_; clear hb ho11))
  repeat (go_quiet (first | ((with_reducible refine gate_dst (N := 1) rfl ?_); refine box_event ?hg (N := 1) ?hd (cs := #[.int .i64 a0_0, .slice A0_1 l0_1.length c0_1]) (t := 24) ?hr ?_; (case hd => rfl); (case hg => rfl); (case hr => first | (go_simp; done) | (go_simp; rfl)); intro gb428 hg w6 hbox hb; have n0_ := ak (below_step lb hb); have n1_ := ak (hbox); have n2_ := ak ((by rw [hg]; exact (below_size lb) : w.heap.size ≤ gb428)); have n3_ := ak ((by rw [hg]; exact (below_size lb) : w.heap.size ≤ gb428)); clear HB; have HB := n0_; have BK428 := n1_; have GW428 := n2_; have GE428 := n3_; clear n0_ n1_ n2_ n3_; clear hb hbox hg; have hcz7_0 : w6.cell? ⟨gb428, 0, none⟩ = some (.int .i64 a0_0) := (blk_cell BK428.out 0).trans rfl; have hcz7_1 : w6.cell? ⟨gb428, 1, none⟩ = some (.slice A0_1 l0_1.length c0_1) := (blk_cell BK428.out 1).trans rfl; have hfz7_0 := blk_frozen BK428.out 0; have hfz7_1 := blk_frozen BK428.out 1) | (go_at_call 34; (with_reducible refine (compassref03_Check.calls k a0_0 _ _ l0_1 t429 t430 _ ?side1 ?side2 A2.out).mono ?_); (case side1 => repeat (first | exact (Kd.C_below HR0_1.out HB.out) | (with_reducible refine Kd.C_alloc ?_ _) | (with_reducible refine Kd.C_drewN ?_ _) | (with_reducible refine Kd.C_drew ?_))); (case side2 => exact HC0_1.out); rintro e w8 ⟨rfl, hb⟩; have n0_ := ak (blk_below (bx BK428.out) hb); have n1_ := ak (below_step lb hb); clear BK428; clear HB; have BK428 := n0_; have HB := n1_; clear n0_ n1_; (try clear hb); (try clear hb2); (try clear hk); (try clear hi); have hcz9_0 : w8.cell? ⟨gb428, 0, none⟩ = some (.int .i64 a0_0) := (blk_cell BK428.out 0).trans rfl; have hcz9_1 : w8.cell? ⟨gb428, 1, none⟩ = some (.slice A0_1 l0_1.length c0_1) := (blk_cell BK428.out 1).trans rfl; have hfz9_0 := blk_frozen BK428.out 0; have hfz9_1 := blk_frozen BK428.out 1) | ((with_reducible refine gate_dst (N := 22) rfl ?_); refine Kd.R_make (Kd.int .i64) _ 3 rfl (N := 22) rfl 26 _ _ rfl a0_0 rfl rfl Try.underlying26 (.int .i64 0) 8 info3 rfl (by decide) (by omega) 0 (ok := fun _ => True) (okp := fun _ => True) rfl (fun _ hk => hk) trivial (oda) (Nat.le_trans (Nat.mul_le_mul_right _ (oda : a0_0.toNat ≤ 35184372088832)) (by omega)) (Below.refl _ _) (Nat.le_refl _) ?_; intro v432 w10 ho11 hb hg_ hnew_; clear hg_ hnew_; (first | rw [← Ny431.out] at ho11 | (simp only [Int.reduceToNat] at ho11; rw [← Ny431.out] at ho11)); have n0_ := ak (Kd.R_lower ho11 (below_size lb)); have n1_ := ak (blk_below (bx BK428.out) hb); have n2_ := ak (below_step lb hb); clear BK428; clear HB; have HO433 := n0_; have BK428 := n1_; have HB := n2_; clear n0_ n1_ n2_; clear hb ho11)); try go_wp2_with (first | ((with_reducible refine gate_dst (N := 1) rfl ?_); refine box_event ?hg (N := 1) ?hd (cs := #[.int .i64 a0_0, .slice A0_1 l0_1.length c0_1]) (t := 24) ?hr ?_; (case hd => rfl); (case hg => rfl); (case hr => first | (go_simp; done) | (go_simp; rfl)); intro gb428 hg w6 hbox hb; have n0_ := ak (below_step lb hb); have n1_ := ak (hbox); have n2_ := ak ((by rw [hg]; exact (below_size lb) : w.heap.size ≤ gb428)); have n3_ := ak ((by rw [hg]; exact (below_size lb) : w.heap.size ≤ gb428)); clear HB; have HB := n0_; have BK428 := n1_; have GW428 := n2_; have GE428 := n3_; clear n0_ n1_ n2_ n3_; clear hb hbox hg; have hcz7_0 : w6.cell? ⟨gb428, 0, none⟩ = some (.int .i64 a0_0) := (blk_cell BK428.out 0).trans rfl; have hcz7_1 : w6.cell? ⟨gb428, 1, none⟩ = some (.slice A0_1 l0_1.length c0_1) := (blk_cell BK428.out 1).trans rfl; have hfz7_0 := blk_frozen BK428.out 0; have hfz7_1 := blk_frozen BK428.out 1) | (go_at_call 34; (with_reducible refine (compassref03_Check.calls k a0_0 _ _ l0_1 t429 t430 _ ?side1 ?side2 A2.out).mono ?_); (case side1 => repeat (first | exact (Kd.C_below HR0_1.out HB.out) | (with_reducible refine Kd.C_alloc ?_ _) | (with_reducible refine Kd.C_drewN ?_ _) | (with_reducible refine Kd.C_drew ?_))); (case side2 => exact HC0_1.out); rintro e w8 ⟨rfl, hb⟩; have n0_ := ak (blk_below (bx BK428.out) hb); have n1_ := ak (below_step lb hb); clear BK428; clear HB; have BK428 := n0_; have HB := n1_; clear n0_ n1_; (try clear hb); (try clear hb2); (try clear hk); (try clear hi); have hcz9_0 : w8.cell? ⟨gb428, 0, none⟩ = some (.int .i64 a0_0) := (blk_cell BK428.out 0).trans rfl; have hcz9_1 : w8.cell? ⟨gb428, 1, none⟩ = some (.slice A0_1 l0_1.length c0_1) := (blk_cell BK428.out 1).trans rfl; have hfz9_0 := blk_frozen BK428.out 0; have hfz9_1 := blk_frozen BK428.out 1) | ((with_reducible refine gate_dst (N := 22) rfl ?_); refine Kd.R_make (Kd.int .i64) _ 3 rfl (N := 22) rfl 26 _ _ rfl a0_0 rfl rfl Try.underlying26 (.int .i64 0) 8 info3 rfl (by decide) (by omega) 0 (ok := fun _ => True) (okp := fun _ => True) rfl (fun _ hk => hk) trivial (oda) (Nat.le_trans (Nat.mul_le_mul_right _ (oda : a0_0.toNat ≤ 35184372088832)) (by omega)) (Below.refl _ _) (Nat.le_refl _) ?_; intro v432 w10 ho11 hb hg_ hnew_; clear hg_ hnew_; (first | rw [← Ny431.out] at ho11 | (simp only [Int.reduceToNat] at ho11; rw [← Ny431.out] at ho11)); have n0_ := ak (Kd.R_lower ho11 (below_size lb)); have n1_ := ak (blk_below (bx BK428.out) hb); have n2_ := ak (below_step lb hb); clear BK428; clear HB; have HO433 := n0_; have BK428 := n1_; have HB := n2_; clear n0_ n1_ n2_; clear hb ho11)))
  go_loopg [7] k (fun kq v7 w' => ∃ (x6_1 : List Int) (x7_1 : Int), v7 = .int .i64 x7_1 ∧ Aside0 (compassref04_Parts.l0 kq x6_1 x7_1 a0_0 l0_1 = some (r1, r2)) ∧ Aside0 (kq ≤ k) ∧ Aside0 (Kd.R (Kd.int .i64) 3 w' w.heap.size (fun _ => True) v432 x6_1) ∧ Aside0 (w'.heap[gb428]? = some (.cells #[.int .i64 a0_0, (.slice A0_1 l0_1.length c0_1)] 24 (0, 0))) ∧ Aside0 (Below w.heap.size w w'))
  case atStart => exact ⟨(y431), (0), (by first | rfl | (simp [*]; done)), H', ⟨Nat.le_refl _⟩, ⟨rx HO433.out⟩, ⟨bx BK428.out⟩, ⟨lb⟩⟩
  case round =>
   clear H'
   try clear c2; try clear p2; try clear c3; try clear c3b0; try clear c3b1; try clear c4; try clear c4b0; try clear c4b1; try clear c5; try clear c5b0; try clear c5b1; try clear hcz7_0; try clear hcz7_1; try clear hcz9_0; try clear hcz9_1; try clear hfz7_0; try clear hfz7_1; try clear hfz9_0; try clear hfz9_1
   obtain ⟨x6_1, x7_1, rfl, HA, HK1, HO_6, BK428, HB⟩ := hrel
   cases gk with
   | zero => exact absurd HA.out (by simp [compassref04_Parts.l0])
   | succ k1 =>
    have H := HA.out
    clear HA
    simp only [compassref04_Parts.l0] at H
    by_cases c12 : x7_1 < a0_0
    ·
     rw [if_pos c12] at H
     have c12b0 : decide (x7_1 < a0_0) = true := decide_eq_true c12
     clear c12
     by_cases c13 : 0 ≤ x7_1
     rotate_left
     ·
      rw [if_neg c13] at H
      exact absurd H (by simp)
     rw [if_pos c13] at H
     have c13b0 : decide (0 ≤ x7_1) = true := decide_eq_true c13
     clear c13
     by_cases c14 : x7_1 < (x6_1.length : Int)
     rotate_left
     ·
      rw [if_neg c14] at H
      exact absurd H (by simp)
     rw [if_pos c14] at H
     have c14b0 : decide (x7_1 < (x6_1.length : Int)) = true := decide_eq_true c14
     clear c14
     obtain ⟨y434, hy434⟩ : ∃ y_ : List Int, y_ = (x6_1.set (x7_1 : Int).toNat x7_1) := ⟨_, rfl⟩
     replace H : (compassref04_Parts.l0 k1 y434 (wrap64 (x7_1 + 1)) a0_0 l0_1) = some (r1, r2) := by first | (rw [hy434]; exact H) | exact H
     have Ny434 := ak hy434
     clear hy434
     have H' := ak H
     clear H
     have hcz16_0 : wr.cell? ⟨gb428, 0, none⟩ = some (.int .i64 a0_0) := (blk_cell BK428.out 0).trans rfl
     have hcz16_1 : wr.cell? ⟨gb428, 1, none⟩ = some (.slice A0_1 l0_1.length c0_1) := (blk_cell BK428.out 1).trans rfl
     have hfz16_0 := blk_frozen BK428.out 0
     have hfz16_1 := blk_frozen BK428.out 1
     have p15 : 0 ≤ (x7_1 : Int) := oda
     have q15 : (x7_1 : Int) < ((x6_1.length : Int) : Int) := oda
     obtain ⟨go15, co15, eo15, gb15, gl15, cl15, HG15⟩ := Kd.R_form HO_6.out (by omega)
     (first | cases eo15 | (injection eo15 with ea_ en_ ec_; (first | subst ea_ | (injection ea_ with ea_; subst ea_)); subst ec_; clear en_))
     have GB15 := ak gb15
     have GG15 := ak HG15
     clear gb15 gl15 HG15
     obtain ⟨hx15_0, hf15_0⟩ := Kd.R_celln 0 HO_6.out (x7_1 : Int) p15 q15
     replace p15 := eq_true p15
     replace q15 := eq_true q15
     have HP17 := Kd.R_putg HO_6.out (x7_1 : Int) x7_1
     go_wp2_with (first | ((with_reducible refine gate_store (t := 3) (p := 32) rfl ?_); (try (rw [drewN_self wr]; generalize hq_ : World.drewN wr _ = wr; have n0_ := ak (Kd.R_at hq_ HO_6.out); have n1_ := ak (blk_at hq_ BK428.out); have n2_ := ak (below_at hq_ HB.out); clear hq_ HO_6 BK428 HB; have HO_6 := n0_; have BK428 := n1_; have HB := n2_; clear n0_ n1_ n2_; (try (obtain ⟨hx15_0, hf15_0⟩ := Kd.R_celln 0 HO_6.out (x7_1 : Int) (of_eq_true p15) (of_eq_true q15))); (try (have HP17 := Kd.R_putg HO_6.out (x7_1 : Int) x7_1)))); refine store_event (t := 3) (p := 32) (v := ?vo_w18) (w1 := (wr.setCell ⟨go15, (x7_1 : Int).toNat, none⟩ (.int .i64 x7_1))) ?hg ?ho ?hn ?hr ?_; (case ho => rfl); (case hg => rfl); (case hn => rfl); (case hr => first | (go_simp; done) | (go_simp; rfl)); intro w18 hw; have hg : wr.grownBy w18 (some go15) := (by rw [hw]; exact HP17.2); have hp_ : Kd.R (Kd.int .i64) 3 w18 w.heap.size (fun _ => True) (.slice (some ⟨go15, 0, none⟩) x6_1.length co15) y434 := (by rw [hw, Ny434.out]; exact HP17.1); clear HP17; have n0_ := ak (hp_); have n1_ := ak (blk_grown (bx BK428.out) hg (Kd.R_ne HO_6.out BK428.out (by decide))); have n2_ := ak ((by rw [hw]; exact below_set (HB.out) GB15.out : Below w.heap.size w w18)); clear HO_6; clear BK428; clear HB; have HO_6 := n0_; have BK428 := n1_; have HB := n2_; clear n0_ n1_ n2_; clear hg hw hp_))
     repeat (go_quiet (first | ((with_reducible refine gate_store (t := 3) (p := 32) rfl ?_); (try (rw [drewN_self wr]; generalize hq_ : World.drewN wr _ = wr; have n0_ := ak (Kd.R_at hq_ HO_6.out); have n1_ := ak (blk_at hq_ BK428.out); have n2_ := ak (below_at hq_ HB.out); clear hq_ HO_6 BK428 HB; have HO_6 := n0_; have BK428 := n1_; have HB := n2_; clear n0_ n1_ n2_; (try (obtain ⟨hx15_0, hf15_0⟩ := Kd.R_celln 0 HO_6.out (x7_1 : Int) (of_eq_true p15) (of_eq_true q15))); (try (have HP17 := Kd.R_putg HO_6.out (x7_1 : Int) x7_1)))); refine store_event (t := 3) (p := 32) (v := ?vo_w18) (w1 := (wr.setCell ⟨go15, (x7_1 : Int).toNat, none⟩ (.int .i64 x7_1))) ?hg ?ho ?hn ?hr ?_; (case ho => rfl); (case hg => rfl); (case hn => rfl); (case hr => first | (go_simp; done) | (go_simp; rfl)); intro w18 hw; have hg : wr.grownBy w18 (some go15) := (by rw [hw]; exact HP17.2); have hp_ : Kd.R (Kd.int .i64) 3 w18 w.heap.size (fun _ => True) (.slice (some ⟨go15, 0, none⟩) x6_1.length co15) y434 := (by rw [hw, Ny434.out]; exact HP17.1); clear HP17; have n0_ := ak (hp_); have n1_ := ak (blk_grown (bx BK428.out) hg (Kd.R_ne HO_6.out BK428.out (by decide))); have n2_ := ak ((by rw [hw]; exact below_set (HB.out) GB15.out : Below w.heap.size w w18)); clear HO_6; clear BK428; clear HB; have HO_6 := n0_; have BK428 := n1_; have HB := n2_; clear n0_ n1_ n2_; clear hg hw hp_)); try go_wp2_with (first | ((with_reducible refine gate_store (t := 3) (p := 32) rfl ?_); (try (rw [drewN_self wr]; generalize hq_ : World.drewN wr _ = wr; have n0_ := ak (Kd.R_at hq_ HO_6.out); have n1_ := ak (blk_at hq_ BK428.out); have n2_ := ak (below_at hq_ HB.out); clear hq_ HO_6 BK428 HB; have HO_6 := n0_; have BK428 := n1_; have HB := n2_; clear n0_ n1_ n2_; (try (obtain ⟨hx15_0, hf15_0⟩ := Kd.R_celln 0 HO_6.out (x7_1 : Int) (of_eq_true p15) (of_eq_true q15))); (try (have HP17 := Kd.R_putg HO_6.out (x7_1 : Int) x7_1)))); refine store_event (t := 3) (p := 32) (v := ?vo_w18) (w1 := (wr.setCell ⟨go15, (x7_1 : Int).toNat, none⟩ (.int .i64 x7_1))) ?hg ?ho ?hn ?hr ?_; (case ho => rfl); (case hg => rfl); (case hn => rfl); (case hr => first | (go_simp; done) | (go_simp; rfl)); intro w18 hw; have hg : wr.grownBy w18 (some go15) := (by rw [hw]; exact HP17.2); have hp_ : Kd.R (Kd.int .i64) 3 w18 w.heap.size (fun _ => True) (.slice (some ⟨go15, 0, none⟩) x6_1.length co15) y434 := (by rw [hw, Ny434.out]; exact HP17.1); clear HP17; have n0_ := ak (hp_); have n1_ := ak (blk_grown (bx BK428.out) hg (Kd.R_ne HO_6.out BK428.out (by decide))); have n2_ := ak ((by rw [hw]; exact below_set (HB.out) GB15.out : Below w.heap.size w w18)); clear HO_6; clear BK428; clear HB; have HO_6 := n0_; have BK428 := n1_; have HB := n2_; clear n0_ n1_ n2_; clear hg hw hp_)))
     go_roundg k1
     case measure => have := HK1.out; omega
     case rel => exact ⟨(y434), (wrap64 (x7_1 + 1)), (by first | rfl | (simp [*]; done)), H', ⟨by have := HK1.out; omega⟩, ⟨rx HO_6.out⟩, ⟨bx BK428.out⟩, ⟨lb⟩⟩
    ·
     rw [if_neg c12] at H
     have c12b0 : decide (x7_1 < a0_0) = false := decide_eq_false c12
     clear c12
     have H' := ak H
     clear H
     have hcz19_0 : wr.cell? ⟨gb428, 0, none⟩ = some (.int .i64 a0_0) := (blk_cell BK428.out 0).trans rfl
     have hcz19_1 : wr.cell? ⟨gb428, 1, none⟩ = some (.slice A0_1 l0_1.length c0_1) := (blk_cell BK428.out 1).trans rfl
     have hfz19_0 := blk_frozen BK428.out 0
     have hfz19_1 := blk_frozen BK428.out 1
     go_wp2
     repeat (go_quiet (fail); try go_wp2)
     go_loopg [8] k1 (fun kq v8 w' => ∃ (x6_2 : List Int) (x8_2 : Int), v8 = .int .i64 x8_2 ∧ Aside0 (compassref04_Parts.l1 kq x6_2 x8_2 a0_0 l0_1 = some (r1, r2)) ∧ Aside0 (kq ≤ k1) ∧ Aside0 (Kd.R (Kd.int .i64) 3 w' w.heap.size (fun _ => True) v432 x6_2) ∧ Aside0 (w'.heap[gb428]? = some (.cells #[.int .i64 a0_0, (.slice A0_1 l0_1.length c0_1)] 24 (0, 0))) ∧ Aside0 (Below w.heap.size w w'))
     case atStart => exact ⟨(x6_1), (0), (by first | rfl | (simp [*]; done)), H', ⟨Nat.le_refl _⟩, ⟨rx HO_6.out⟩, ⟨bx BK428.out⟩, ⟨lb⟩⟩
     case round =>
      clear H'
      try clear c1; try clear p1; try clear q1; try clear hx1; try clear hf1; try clear c2; try clear p2; try clear c3; try clear c3b0; try clear c3b1; try clear c4; try clear c4b0; try clear c4b1; try clear c5; try clear c5b0; try clear c5b1; try clear p6; try clear c12; try clear c12b0; try clear c13; try clear c13b0; try clear c14; try clear c14b0; try clear p15; try clear q15; try clear hx15; try clear hf15; try clear hcz16_0; try clear hcz16_1; try clear hcz19_0; try clear hcz19_1; try clear hcz7_0; try clear hcz7_1; try clear hcz9_0; try clear hcz9_1; try clear hfz16_0; try clear hfz16_1; try clear hfz19_0; try clear hfz19_1; try clear hfz7_0; try clear hfz7_1; try clear hfz9_0; try clear hfz9_1; try clear hx15_0; try clear p15; try clear p2; try clear q15
      obtain ⟨x6_2, x8_2, rfl, HA, HK2, HO_6, BK428, HB⟩ := hrel
      cases gk with
      | zero => exact absurd HA.out (by simp [compassref04_Parts.l1])
      | succ k2 =>
       have H := HA.out
       clear HA
       simp only [compassref04_Parts.l1] at H
       by_cases c20 : x8_2 < a0_0
       ·
        rw [if_pos c20] at H
        have c20b0 : decide (x8_2 < a0_0) = true := decide_eq_true c20
        clear c20
        have H' := ak H
        clear H
        have hcz21_0 : wr.cell? ⟨gb428, 0, none⟩ = some (.int .i64 a0_0) := (blk_cell BK428.out 0).trans rfl
        have hcz21_1 : wr.cell? ⟨gb428, 1, none⟩ = some (.slice A0_1 l0_1.length c0_1) := (blk_cell BK428.out 1).trans rfl
        have hfz21_0 := blk_frozen BK428.out 0
        have hfz21_1 := blk_frozen BK428.out 1
        go_wp2
        repeat (go_quiet (fail); try go_wp2)
        go_loopg [9] k2 (fun kq v9 w' => ∃ (x6_3 : List Int) (x9_3 : Int), v9 = .int .i64 x9_3 ∧ Aside0 (compassref04_Parts.l2 kq x6_3 x8_2 x9_3 a0_0 l0_1 = some (r1, r2)) ∧ Aside0 (kq ≤ k2) ∧ Aside0 (Kd.R (Kd.int .i64) 3 w' w.heap.size (fun _ => True) v432 x6_3) ∧ Aside0 (w'.heap[gb428]? = some (.cells #[.int .i64 a0_0, (.slice A0_1 l0_1.length c0_1)] 24 (0, 0))) ∧ Aside0 (Below w.heap.size w w'))
        case atStart => exact ⟨(x6_2), (0), (by first | rfl | (simp [*]; done)), H', ⟨Nat.le_refl _⟩, ⟨rx HO_6.out⟩, ⟨bx BK428.out⟩, ⟨lb⟩⟩
        case round =>
         clear H'
         try clear c1; try clear p1; try clear q1; try clear hx1; try clear hf1; try clear c2; try clear p2; try clear c3; try clear c3b0; try clear c3b1; try clear c4; try clear c4b0; try clear c4b1; try clear c5; try clear c5b0; try clear c5b1; try clear p6; try clear c12; try clear c12b0; try clear c13; try clear c13b0; try clear c14; try clear c14b0; try clear p15; try clear q15; try clear hx15; try clear hf15; try clear c20; try clear c20b0; try clear hcz16_0; try clear hcz16_1; try clear hcz19_0; try clear hcz19_1; try clear hcz21_0; try clear hcz21_1; try clear hcz7_0; try clear hcz7_1; try clear hcz9_0; try clear hcz9_1; try clear hfz16_0; try clear hfz16_1; try clear hfz19_0; try clear hfz19_1; try clear hfz21_0; try clear hfz21_1; try clear hfz7_0; try clear hfz7_1; try clear hfz9_0; try clear hfz9_1; try clear hx15_0; try clear p1; try clear p15; try clear p2; try clear p6; try clear q1; try clear q15
         obtain ⟨x6_3, x9_3, rfl, HA, HK3, HO_6, BK428, HB⟩ := hrel
         cases gk with
         | zero => exact absurd HA.out (by simp [compassref04_Parts.l2])
         | succ k3 =>
          have H := HA.out
          clear HA
          simp only [compassref04_Parts.l2] at H
          by_cases c22 : x9_3 < (l0_1.length : Int)
          ·
           rw [if_pos c22] at H
           have c22b0 : decide (x9_3 < (l0_1.length : Int)) = true := decide_eq_true c22
           clear c22
           by_cases c23 : 0 ≤ x9_3
           rotate_left
           ·
            rw [if_neg c23] at H
            exact absurd H (by simp)
           rw [if_pos c23] at H
           have c23b0 : decide (0 ≤ x9_3) = true := decide_eq_true c23
           clear c23
           by_cases c24 : 0 ≤ ((rd_T41 l0_1 x9_3).f0)
           rotate_left
           ·
            rw [if_neg c24] at H
            exact absurd H (by simp)
           rw [if_pos c24] at H
           have c24b0 : decide (0 ≤ ((rd_T41 l0_1 x9_3).f0)) = true := decide_eq_true c24
           clear c24
           by_cases c25 : ((rd_T41 l0_1 x9_3).f0) < (x6_3.length : Int)
           rotate_left
           ·
            rw [if_neg c25] at H
            exact absurd H (by simp)
           rw [if_pos c25] at H
           have c25b0 : decide (((rd_T41 l0_1 x9_3).f0) < (x6_3.length : Int)) = true := decide_eq_true c25
           clear c25
           by_cases c26 : 0 ≤ ((rd_T41 l0_1 x9_3).f1)
           rotate_left
           ·
            rw [if_neg c26] at H
            exact absurd H (by simp)
           rw [if_pos c26] at H
           have c26b0 : decide (0 ≤ ((rd_T41 l0_1 x9_3).f1)) = true := decide_eq_true c26
           clear c26
           by_cases c27 : ((rd_T41 l0_1 x9_3).f1) < (x6_3.length : Int)
           rotate_left
           ·
            rw [if_neg c27] at H
            exact absurd H (by simp)
           rw [if_pos c27] at H
           have c27b0 : decide (((rd_T41 l0_1 x9_3).f1) < (x6_3.length : Int)) = true := decide_eq_true c27
           clear c27
           by_cases c28 : (rd x6_3 ((rd_T41 l0_1 x9_3).f0)) < (rd x6_3 ((rd_T41 l0_1 x9_3).f1))
           ·
            rw [if_pos c28] at H
            have c28b0 : decide ((rd x6_3 ((rd_T41 l0_1 x9_3).f0)) < (rd x6_3 ((rd_T41 l0_1 x9_3).f1))) = true := decide_eq_true c28
            clear c28
            obtain ⟨y443, hy443⟩ : ∃ y_ : List Int, y_ = (x6_3.set (((rd_T41 l0_1 x9_3).f1) : Int).toNat (rd x6_3 ((rd_T41 l0_1 x9_3).f0))) := ⟨_, rfl⟩
            replace H : (compassref04_Parts.l2 k3 y443 x8_2 (wrap64 (x9_3 + 1)) a0_0 l0_1) = some (r1, r2) := by first | (rw [hy443]; exact H) | exact H
            have Ny443 := ak hy443
            clear hy443
            have H' := ak H
            clear H
            have hcz30_0 : wr.cell? ⟨gb428, 0, none⟩ = some (.int .i64 a0_0) := (blk_cell BK428.out 0).trans rfl
            have hcz30_1 : wr.cell? ⟨gb428, 1, none⟩ = some (.slice A0_1 l0_1.length c0_1) := (blk_cell BK428.out 1).trans rfl
            have hfz30_0 := blk_frozen BK428.out 0
            have hfz30_1 := blk_frozen BK428.out 1
            have p438 : 0 ≤ (x9_3 : Int) := oda
            have q438 : x9_3 < (l0_1.length : Int) := oda
            obtain ⟨ad438, e438, hx438_0, hx438_1, hx438_2, hx438_3⟩ := at_T41 HR0_1.out x9_3 p438 q438
            cases e438
            (try replace hx438_0 := (HB.out.cell (World.block_lt_of_cell? w _ hx438_0)).trans hx438_0)
            (try replace hx438_1 := (HB.out.cell (World.block_lt_of_cell? w _ hx438_1)).trans hx438_1)
            (try replace hx438_2 := (HB.out.cell (World.block_lt_of_cell? w _ hx438_2)).trans hx438_2)
            (try replace hx438_3 := (HB.out.cell (World.block_lt_of_cell? w _ hx438_3)).trans hx438_3)
            replace p438 := eq_true p438
            replace q438 := eq_true q438
            have p439 : 0 ≤ (x9_3 : Int) := oda
            have q439 : x9_3 < (l0_1.length : Int) := oda
            obtain ⟨ad439, e439, hx439_0, hx439_1, hx439_2, hx439_3⟩ := at_T41 HR0_1.out x9_3 p439 q439
            obtain rfl : ad438 = ad439 := (by injection e439)
            (try replace hx439_0 := (HB.out.cell (World.block_lt_of_cell? w _ hx439_0)).trans hx439_0)
            (try replace hx439_1 := (HB.out.cell (World.block_lt_of_cell? w _ hx439_1)).trans hx439_1)
            (try replace hx439_2 := (HB.out.cell (World.block_lt_of_cell? w _ hx439_2)).trans hx439_2)
            (try replace hx439_3 := (HB.out.cell (World.block_lt_of_cell? w _ hx439_3)).trans hx439_3)
            replace p439 := eq_true p439
            replace q439 := eq_true q439
            obtain ⟨Ao31, co31, eo31⟩ := Kd.R_slice HO_6.out
            subst eo31
            have p440 : 0 ≤ (((rd_T41 l0_1 x9_3).f0) : Int) := oda
            have q440 : ((rd_T41 l0_1 x9_3).f0) < (x6_3.length : Int) := oda
            obtain ⟨ad440, e440, hx440_0⟩ := Kd.at_int (Kd.R_reads' HO_6.out).2.2 ((rd_T41 l0_1 x9_3).f0) p440 q440
            cases e440
            replace p440 := eq_true p440
            replace q440 := eq_true q440
            have p441 : 0 ≤ (((rd_T41 l0_1 x9_3).f1) : Int) := oda
            have q441 : ((rd_T41 l0_1 x9_3).f1) < (x6_3.length : Int) := oda
            obtain ⟨ad441, e441, hx441_0⟩ := Kd.at_int (Kd.R_reads' HO_6.out).2.2 ((rd_T41 l0_1 x9_3).f1) p441 q441
            obtain rfl : ad440 = ad441 := (by injection e441)
            replace p441 := eq_true p441
            replace q441 := eq_true q441
            have p442 : 0 ≤ (((rd_T41 l0_1 x9_3).f0) : Int) := oda
            have q442 : ((rd_T41 l0_1 x9_3).f0) < (x6_3.length : Int) := oda
            obtain ⟨ad442, e442, hx442_0⟩ := Kd.at_int (Kd.R_reads' HO_6.out).2.2 ((rd_T41 l0_1 x9_3).f0) p442 q442
            obtain rfl : ad440 = ad442 := (by injection e442)
            replace p442 := eq_true p442
            replace q442 := eq_true q442
            have p29 : 0 ≤ (((rd_T41 l0_1 x9_3).f1) : Int) := oda
            have q29 : (((rd_T41 l0_1 x9_3).f1) : Int) < ((x6_3.length : Int) : Int) := oda
            obtain ⟨go29, co29, eo29, gb29, gl29, cl29, HG29⟩ := Kd.R_form HO_6.out (by omega)
            (first | cases eo29 | (injection eo29 with ea_ en_ ec_; (first | subst ea_ | (injection ea_ with ea_; subst ea_)); subst ec_; clear en_))
            have GB29 := ak gb29
            have GG29 := ak HG29
            clear gb29 gl29 HG29
            (first | simp only [add_plain] at hx440_0 | skip)
            (first | simp only [add_plain] at hx441_0 | skip)
            (first | simp only [add_plain] at hx442_0 | skip)
            obtain ⟨hx29_0, hf29_0⟩ := Kd.R_celln 0 HO_6.out (((rd_T41 l0_1 x9_3).f1) : Int) p29 q29
            replace p29 := eq_true p29
            replace q29 := eq_true q29
            have HP32 := Kd.R_putg HO_6.out (((rd_T41 l0_1 x9_3).f1) : Int) (rd x6_3 ((rd_T41 l0_1 x9_3).f0))
            go_wp2_with (first | ((with_reducible refine gate_store (t := 3) (p := 73) rfl ?_); (try (rw [drewN_self wr]; generalize hq_ : World.drewN wr _ = wr; have n0_ := ak (Kd.R_at hq_ HO_6.out); have n1_ := ak (blk_at hq_ BK428.out); have n2_ := ak (below_at hq_ HB.out); clear hq_ HO_6 BK428 HB; have HO_6 := n0_; have BK428 := n1_; have HB := n2_; clear n0_ n1_ n2_; (try (obtain ⟨hx29_0, hf29_0⟩ := Kd.R_celln 0 HO_6.out (((rd_T41 l0_1 x9_3).f1) : Int) (of_eq_true p29) (of_eq_true q29))); (try (have HP32 := Kd.R_putg HO_6.out (((rd_T41 l0_1 x9_3).f1) : Int) (rd x6_3 ((rd_T41 l0_1 x9_3).f0)))))); refine store_event (t := 3) (p := 73) (v := ?vo_w33) (w1 := (wr.setCell ⟨go29, (((rd_T41 l0_1 x9_3).f1) : Int).toNat, none⟩ (.int .i64 (rd x6_3 ((rd_T41 l0_1 x9_3).f0))))) ?hg ?ho ?hn ?hr ?_; (case ho => rfl); (case hg => rfl); (case hn => rfl); (case hr => first | (go_simp; done) | (go_simp; rfl)); intro w33 hw; have hg : wr.grownBy w33 (some go29) := (by rw [hw]; exact HP32.2); have hp_ : Kd.R (Kd.int .i64) 3 w33 w.heap.size (fun _ => True) (.slice (some ⟨go29, 0, none⟩) x6_3.length co31) y443 := (by rw [hw, Ny443.out]; exact HP32.1); clear HP32; have n0_ := ak (hp_); have n1_ := ak (blk_grown (bx BK428.out) hg (Kd.R_ne HO_6.out BK428.out (by decide))); have n2_ := ak ((by rw [hw]; exact below_set (HB.out) GB29.out : Below w.heap.size w w33)); clear HO_6; clear BK428; clear HB; have HO_6 := n0_; have BK428 := n1_; have HB := n2_; clear n0_ n1_ n2_; clear hg hw hp_))
            repeat (go_quiet (first | ((with_reducible refine gate_store (t := 3) (p := 73) rfl ?_); (try (rw [drewN_self wr]; generalize hq_ : World.drewN wr _ = wr; have n0_ := ak (Kd.R_at hq_ HO_6.out); have n1_ := ak (blk_at hq_ BK428.out); have n2_ := ak (below_at hq_ HB.out); clear hq_ HO_6 BK428 HB; have HO_6 := n0_; have BK428 := n1_; have HB := n2_; clear n0_ n1_ n2_; (try (obtain ⟨hx29_0, hf29_0⟩ := Kd.R_celln 0 HO_6.out (((rd_T41 l0_1 x9_3).f1) : Int) (of_eq_true p29) (of_eq_true q29))); (try (have HP32 := Kd.R_putg HO_6.out (((rd_T41 l0_1 x9_3).f1) : Int) (rd x6_3 ((rd_T41 l0_1 x9_3).f0)))))); refine store_event (t := 3) (p := 73) (v := ?vo_w33) (w1 := (wr.setCell ⟨go29, (((rd_T41 l0_1 x9_3).f1) : Int).toNat, none⟩ (.int .i64 (rd x6_3 ((rd_T41 l0_1 x9_3).f0))))) ?hg ?ho ?hn ?hr ?_; (case ho => rfl); (case hg => rfl); (case hn => rfl); (case hr => first | (go_simp; done) | (go_simp; rfl)); intro w33 hw; have hg : wr.grownBy w33 (some go29) := (by rw [hw]; exact HP32.2); have hp_ : Kd.R (Kd.int .i64) 3 w33 w.heap.size (fun _ => True) (.slice (some ⟨go29, 0, none⟩) x6_3.length co31) y443 := (by rw [hw, Ny443.out]; exact HP32.1); clear HP32; have n0_ := ak (hp_); have n1_ := ak (blk_grown (bx BK428.out) hg (Kd.R_ne HO_6.out BK428.out (by decide))); have n2_ := ak ((by rw [hw]; exact below_set (HB.out) GB29.out : Below w.heap.size w w33)); clear HO_6; clear BK428; clear HB; have HO_6 := n0_; have BK428 := n1_; have HB := n2_; clear n0_ n1_ n2_; clear hg hw hp_)); try go_wp2_with (first | ((with_reducible refine gate_store (t := 3) (p := 73) rfl ?_); (try (rw [drewN_self wr]; generalize hq_ : World.drewN wr _ = wr; have n0_ := ak (Kd.R_at hq_ HO_6.out); have n1_ := ak (blk_at hq_ BK428.out); have n2_ := ak (below_at hq_ HB.out); clear hq_ HO_6 BK428 HB; have HO_6 := n0_; have BK428 := n1_; have HB := n2_; clear n0_ n1_ n2_; (try (obtain ⟨hx29_0, hf29_0⟩ := Kd.R_celln 0 HO_6.out (((rd_T41 l0_1 x9_3).f1) : Int) (of_eq_true p29) (of_eq_true q29))); (try (have HP32 := Kd.R_putg HO_6.out (((rd_T41 l0_1 x9_3).f1) : Int) (rd x6_3 ((rd_T41 l0_1 x9_3).f0)))))); refine store_event (t := 3) (p := 73) (v := ?vo_w33) (w1 := (wr.setCell ⟨go29, (((rd_T41 l0_1 x9_3).f1) : Int).toNat, none⟩ (.int .i64 (rd x6_3 ((rd_T41 l0_1 x9_3).f0))))) ?hg ?ho ?hn ?hr ?_; (case ho => rfl); (case hg => rfl); (case hn => rfl); (case hr => first | (go_simp; done) | (go_simp; rfl)); intro w33 hw; have hg : wr.grownBy w33 (some go29) := (by rw [hw]; exact HP32.2); have hp_ : Kd.R (Kd.int .i64) 3 w33 w.heap.size (fun _ => True) (.slice (some ⟨go29, 0, none⟩) x6_3.length co31) y443 := (by rw [hw, Ny443.out]; exact HP32.1); clear HP32; have n0_ := ak (hp_); have n1_ := ak (blk_grown (bx BK428.out) hg (Kd.R_ne HO_6.out BK428.out (by decide))); have n2_ := ak ((by rw [hw]; exact below_set (HB.out) GB29.out : Below w.heap.size w w33)); clear HO_6; clear BK428; clear HB; have HO_6 := n0_; have BK428 := n1_; have HB := n2_; clear n0_ n1_ n2_; clear hg hw hp_)))
            go_roundg k3
            case measure => have := HK1.out; have := HK2.out; have := HK3.out; omega
            case rel => exact ⟨(y443), (wrap64 (x9_3 + 1)), (by first | rfl | (simp [*]; done)), H', ⟨by have := HK1.out; have := HK2.out; have := HK3.out; omega⟩, ⟨rx HO_6.out⟩, ⟨bx BK428.out⟩, ⟨lb⟩⟩
           ·
            rw [if_neg c28] at H
            have c28b0 : decide ((rd x6_3 ((rd_T41 l0_1 x9_3).f0)) < (rd x6_3 ((rd_T41 l0_1 x9_3).f1))) = false := decide_eq_false c28
            clear c28
            obtain ⟨y445, hy445⟩ : ∃ y_ : List Int, y_ = (x6_3.set (((rd_T41 l0_1 x9_3).f0) : Int).toNat (rd x6_3 ((rd_T41 l0_1 x9_3).f1))) := ⟨_, rfl⟩
            replace H : (compassref04_Parts.l2 k3 y445 x8_2 (wrap64 (x9_3 + 1)) a0_0 l0_1) = some (r1, r2) := by first | (rw [hy445]; exact H) | exact H
            have Ny445 := ak hy445
            clear hy445
            have H' := ak H
            clear H
            have hcz35_0 : wr.cell? ⟨gb428, 0, none⟩ = some (.int .i64 a0_0) := (blk_cell BK428.out 0).trans rfl
            have hcz35_1 : wr.cell? ⟨gb428, 1, none⟩ = some (.slice A0_1 l0_1.length c0_1) := (blk_cell BK428.out 1).trans rfl
            have hfz35_0 := blk_frozen BK428.out 0
            have hfz35_1 := blk_frozen BK428.out 1
            have p438 : 0 ≤ (x9_3 : Int) := oda
            have q438 : x9_3 < (l0_1.length : Int) := oda
            obtain ⟨ad438, e438, hx438_0, hx438_1, hx438_2, hx438_3⟩ := at_T41 HR0_1.out x9_3 p438 q438
            cases e438
            (try replace hx438_0 := (HB.out.cell (World.block_lt_of_cell? w _ hx438_0)).trans hx438_0)
            (try replace hx438_1 := (HB.out.cell (World.block_lt_of_cell? w _ hx438_1)).trans hx438_1)
            (try replace hx438_2 := (HB.out.cell (World.block_lt_of_cell? w _ hx438_2)).trans hx438_2)
            (try replace hx438_3 := (HB.out.cell (World.block_lt_of_cell? w _ hx438_3)).trans hx438_3)
            replace p438 := eq_true p438
            replace q438 := eq_true q438
            have p439 : 0 ≤ (x9_3 : Int) := oda
            have q439 : x9_3 < (l0_1.length : Int) := oda
            obtain ⟨ad439, e439, hx439_0, hx439_1, hx439_2, hx439_3⟩ := at_T41 HR0_1.out x9_3 p439 q439
            obtain rfl : ad438 = ad439 := (by injection e439)
            (try replace hx439_0 := (HB.out.cell (World.block_lt_of_cell? w _ hx439_0)).trans hx439_0)
            (try replace hx439_1 := (HB.out.cell (World.block_lt_of_cell? w _ hx439_1)).trans hx439_1)
            (try replace hx439_2 := (HB.out.cell (World.block_lt_of_cell? w _ hx439_2)).trans hx439_2)
            (try replace hx439_3 := (HB.out.cell (World.block_lt_of_cell? w _ hx439_3)).trans hx439_3)
            replace p439 := eq_true p439
            replace q439 := eq_true q439
            obtain ⟨Ao36, co36, eo36⟩ := Kd.R_slice HO_6.out
            subst eo36
            have p440 : 0 ≤ (((rd_T41 l0_1 x9_3).f0) : Int) := oda
            have q440 : ((rd_T41 l0_1 x9_3).f0) < (x6_3.length : Int) := oda
            obtain ⟨ad440, e440, hx440_0⟩ := Kd.at_int (Kd.R_reads' HO_6.out).2.2 ((rd_T41 l0_1 x9_3).f0) p440 q440
            cases e440
            replace p440 := eq_true p440
            replace q440 := eq_true q440
            have p441 : 0 ≤ (((rd_T41 l0_1 x9_3).f1) : Int) := oda
            have q441 : ((rd_T41 l0_1 x9_3).f1) < (x6_3.length : Int) := oda
            obtain ⟨ad441, e441, hx441_0⟩ := Kd.at_int (Kd.R_reads' HO_6.out).2.2 ((rd_T41 l0_1 x9_3).f1) p441 q441
            obtain rfl : ad440 = ad441 := (by injection e441)
            replace p441 := eq_true p441
            replace q441 := eq_true q441
            have p444 : 0 ≤ (((rd_T41 l0_1 x9_3).f1) : Int) := oda
            have q444 : ((rd_T41 l0_1 x9_3).f1) < (x6_3.length : Int) := oda
            obtain ⟨ad444, e444, hx444_0⟩ := Kd.at_int (Kd.R_reads' HO_6.out).2.2 ((rd_T41 l0_1 x9_3).f1) p444 q444
            obtain rfl : ad440 = ad444 := (by injection e444)
            replace p444 := eq_true p444
            replace q444 := eq_true q444
            have p34 : 0 ≤ (((rd_T41 l0_1 x9_3).f0) : Int) := oda
            have q34 : (((rd_T41 l0_1 x9_3).f0) : Int) < ((x6_3.length : Int) : Int) := oda
            obtain ⟨go34, co34, eo34, gb34, gl34, cl34, HG34⟩ := Kd.R_form HO_6.out (by omega)
            (first | cases eo34 | (injection eo34 with ea_ en_ ec_; (first | subst ea_ | (injection ea_ with ea_; subst ea_)); subst ec_; clear en_))
            have GB34 := ak gb34
            have GG34 := ak HG34
            clear gb34 gl34 HG34
            (first | simp only [add_plain] at hx440_0 | skip)
            (first | simp only [add_plain] at hx441_0 | skip)
            (first | simp only [add_plain] at hx444_0 | skip)
            obtain ⟨hx34_0, hf34_0⟩ := Kd.R_celln 0 HO_6.out (((rd_T41 l0_1 x9_3).f0) : Int) p34 q34
            replace p34 := eq_true p34
            replace q34 := eq_true q34
            have HP37 := Kd.R_putg HO_6.out (((rd_T41 l0_1 x9_3).f0) : Int) (rd x6_3 ((rd_T41 l0_1 x9_3).f1))
            go_wp2_with (first | ((with_reducible refine gate_store (t := 3) (p := 80) rfl ?_); (try (rw [drewN_self wr]; generalize hq_ : World.drewN wr _ = wr; have n0_ := ak (Kd.R_at hq_ HO_6.out); have n1_ := ak (blk_at hq_ BK428.out); have n2_ := ak (below_at hq_ HB.out); clear hq_ HO_6 BK428 HB; have HO_6 := n0_; have BK428 := n1_; have HB := n2_; clear n0_ n1_ n2_; (try (obtain ⟨hx34_0, hf34_0⟩ := Kd.R_celln 0 HO_6.out (((rd_T41 l0_1 x9_3).f0) : Int) (of_eq_true p34) (of_eq_true q34))); (try (have HP37 := Kd.R_putg HO_6.out (((rd_T41 l0_1 x9_3).f0) : Int) (rd x6_3 ((rd_T41 l0_1 x9_3).f1)))))); refine store_event (t := 3) (p := 80) (v := ?vo_w38) (w1 := (wr.setCell ⟨go34, (((rd_T41 l0_1 x9_3).f0) : Int).toNat, none⟩ (.int .i64 (rd x6_3 ((rd_T41 l0_1 x9_3).f1))))) ?hg ?ho ?hn ?hr ?_; (case ho => rfl); (case hg => rfl); (case hn => rfl); (case hr => first | (go_simp; done) | (go_simp; rfl)); intro w38 hw; have hg : wr.grownBy w38 (some go34) := (by rw [hw]; exact HP37.2); have hp_ : Kd.R (Kd.int .i64) 3 w38 w.heap.size (fun _ => True) (.slice (some ⟨go34, 0, none⟩) x6_3.length co36) y445 := (by rw [hw, Ny445.out]; exact HP37.1); clear HP37; have n0_ := ak (hp_); have n1_ := ak (blk_grown (bx BK428.out) hg (Kd.R_ne HO_6.out BK428.out (by decide))); have n2_ := ak ((by rw [hw]; exact below_set (HB.out) GB34.out : Below w.heap.size w w38)); clear HO_6; clear BK428; clear HB; have HO_6 := n0_; have BK428 := n1_; have HB := n2_; clear n0_ n1_ n2_; clear hg hw hp_))
            repeat (go_quiet (first | ((with_reducible refine gate_store (t := 3) (p := 80) rfl ?_); (try (rw [drewN_self wr]; generalize hq_ : World.drewN wr _ = wr; have n0_ := ak (Kd.R_at hq_ HO_6.out); have n1_ := ak (blk_at hq_ BK428.out); have n2_ := ak (below_at hq_ HB.out); clear hq_ HO_6 BK428 HB; have HO_6 := n0_; have BK428 := n1_; have HB := n2_; clear n0_ n1_ n2_; (try (obtain ⟨hx34_0, hf34_0⟩ := Kd.R_celln 0 HO_6.out (((rd_T41 l0_1 x9_3).f0) : Int) (of_eq_true p34) (of_eq_true q34))); (try (have HP37 := Kd.R_putg HO_6.out (((rd_T41 l0_1 x9_3).f0) : Int) (rd x6_3 ((rd_T41 l0_1 x9_3).f1)))))); refine store_event (t := 3) (p := 80) (v := ?vo_w38) (w1 := (wr.setCell ⟨go34, (((rd_T41 l0_1 x9_3).f0) : Int).toNat, none⟩ (.int .i64 (rd x6_3 ((rd_T41 l0_1 x9_3).f1))))) ?hg ?ho ?hn ?hr ?_; (case ho => rfl); (case hg => rfl); (case hn => rfl); (case hr => first | (go_simp; done) | (go_simp; rfl)); intro w38 hw; have hg : wr.grownBy w38 (some go34) := (by rw [hw]; exact HP37.2); have hp_ : Kd.R (Kd.int .i64) 3 w38 w.heap.size (fun _ => True) (.slice (some ⟨go34, 0, none⟩) x6_3.length co36) y445 := (by rw [hw, Ny445.out]; exact HP37.1); clear HP37; have n0_ := ak (hp_); have n1_ := ak (blk_grown (bx BK428.out) hg (Kd.R_ne HO_6.out BK428.out (by decide))); have n2_ := ak ((by rw [hw]; exact below_set (HB.out) GB34.out : Below w.heap.size w w38)); clear HO_6; clear BK428; clear HB; have HO_6 := n0_; have BK428 := n1_; have HB := n2_; clear n0_ n1_ n2_; clear hg hw hp_)); try go_wp2_with (first | ((with_reducible refine gate_store (t := 3) (p := 80) rfl ?_); (try (rw [drewN_self wr]; generalize hq_ : World.drewN wr _ = wr; have n0_ := ak (Kd.R_at hq_ HO_6.out); have n1_ := ak (blk_at hq_ BK428.out); have n2_ := ak (below_at hq_ HB.out); clear hq_ HO_6 BK428 HB; have HO_6 := n0_; have BK428 := n1_; have HB := n2_; clear n0_ n1_ n2_; (try (obtain ⟨hx34_0, hf34_0⟩ := Kd.R_celln 0 HO_6.out (((rd_T41 l0_1 x9_3).f0) : Int) (of_eq_true p34) (of_eq_true q34))); (try (have HP37 := Kd.R_putg HO_6.out (((rd_T41 l0_1 x9_3).f0) : Int) (rd x6_3 ((rd_T41 l0_1 x9_3).f1)))))); refine store_event (t := 3) (p := 80) (v := ?vo_w38) (w1 := (wr.setCell ⟨go34, (((rd_T41 l0_1 x9_3).f0) : Int).toNat, none⟩ (.int .i64 (rd x6_3 ((rd_T41 l0_1 x9_3).f1))))) ?hg ?ho ?hn ?hr ?_; (case ho => rfl); (case hg => rfl); (case hn => rfl); (case hr => first | (go_simp; done) | (go_simp; rfl)); intro w38 hw; have hg : wr.grownBy w38 (some go34) := (by rw [hw]; exact HP37.2); have hp_ : Kd.R (Kd.int .i64) 3 w38 w.heap.size (fun _ => True) (.slice (some ⟨go34, 0, none⟩) x6_3.length co36) y445 := (by rw [hw, Ny445.out]; exact HP37.1); clear HP37; have n0_ := ak (hp_); have n1_ := ak (blk_grown (bx BK428.out) hg (Kd.R_ne HO_6.out BK428.out (by decide))); have n2_ := ak ((by rw [hw]; exact below_set (HB.out) GB34.out : Below w.heap.size w w38)); clear HO_6; clear BK428; clear HB; have HO_6 := n0_; have BK428 := n1_; have HB := n2_; clear n0_ n1_ n2_; clear hg hw hp_)))
            go_roundg k3
            case measure => have := HK1.out; have := HK2.out; have := HK3.out; omega
            case rel => exact ⟨(y445), (wrap64 (x9_3 + 1)), (by first | rfl | (simp [*]; done)), H', ⟨by have := HK1.out; have := HK2.out; have := HK3.out; omega⟩, ⟨rx HO_6.out⟩, ⟨bx BK428.out⟩, ⟨lb⟩⟩
          ·
           rw [if_neg c22] at H
           have c22b0 : decide (x9_3 < (l0_1.length : Int)) = false := decide_eq_false c22
           clear c22
           have H' := ak H
           clear H
           have hcz39_0 : wr.cell? ⟨gb428, 0, none⟩ = some (.int .i64 a0_0) := (blk_cell BK428.out 0).trans rfl
           have hcz39_1 : wr.cell? ⟨gb428, 1, none⟩ = some (.slice A0_1 l0_1.length c0_1) := (blk_cell BK428.out 1).trans rfl
           have hfz39_0 := blk_frozen BK428.out 0
           have hfz39_1 := blk_frozen BK428.out 1
           go_wp2
           repeat (go_quiet (fail); try go_wp2)
           go_roundg k3
           case measure => have := HK1.out; have := HK2.out; have := HK3.out; omega
           case rel => exact ⟨(x6_3), (wrap64 (x8_2 + 1)), (by first | rfl | (simp [*]; done)), H', ⟨by have := HK1.out; have := HK2.out; have := HK3.out; omega⟩, ⟨rx HO_6.out⟩, ⟨bx BK428.out⟩, ⟨lb⟩⟩
       ·
        rw [if_neg c20] at H
        have c20b0 : decide (x8_2 < a0_0) = false := decide_eq_false c20
        clear c20
        replace H := Option.bind_eq_some_iff.mp H
        obtain ⟨t435, A400, H⟩ := H
        replace H : (some (t435, 0)) = some (r1, r2) := H
        have A40 := ak A400
        clear A400
        simp only [Option.some.injEq, Prod.mk.injEq] at H
        obtain ⟨rfl, rfl⟩ := H
        have hcz41_0 : wr.cell? ⟨gb428, 0, none⟩ = some (.int .i64 a0_0) := (blk_cell BK428.out 0).trans rfl
        have hcz41_1 : wr.cell? ⟨gb428, 1, none⟩ = some (.slice A0_1 l0_1.length c0_1) := (blk_cell BK428.out 1).trans rfl
        have hfz41_0 := blk_frozen BK428.out 0
        have hfz41_1 := blk_frozen BK428.out 1
        obtain ⟨Ao42, co42, eo42⟩ := Kd.R_slice HO_6.out
        subst eo42
        go_wp2_with (first | (go_at_call 40; (with_reducible refine (compassref04_Numbered.calls k2 _ _ x6_2 t435 _ ?side1 ?side2 A40.out).mono ?_); (case side1 => repeat (first | exact (Kd.R_reads' HO_6.out).2.2 | (with_reducible refine Kd.C_alloc ?_ _) | (with_reducible refine Kd.C_drewN ?_ _) | (with_reducible refine Kd.C_drew ?_))); (case side2 => exact (Kd.R_reads' HO_6.out).2.1); rintro e w43 ⟨v436, rfl, ho0, hb⟩; have n0_ := ak (Kd.R_elder' (rx HO_6.out) (Kd.R_base ho0) hb); have n1_ := ak (Kd.R_lower (Kd.R_new' ho0 (Kd.R_lt (rx HO_6.out))) (below_size lb)); have n2_ := ak (blk_below (bx BK428.out) hb); have n3_ := ak (below_step lb hb); clear HO_6; clear BK428; clear HB; have HO_6 := n0_; have HO437 := n1_; have BK428 := n2_; have HB := n3_; clear n0_ n1_ n2_ n3_; (try clear hb); (try clear hb2); (try clear hk); (try clear hi); (try clear ho0)))
        repeat (go_quiet (first | (go_at_call 40; (with_reducible refine (compassref04_Numbered.calls k2 _ _ x6_2 t435 _ ?side1 ?side2 A40.out).mono ?_); (case side1 => repeat (first | exact (Kd.R_reads' HO_6.out).2.2 | (with_reducible refine Kd.C_alloc ?_ _) | (with_reducible refine Kd.C_drewN ?_ _) | (with_reducible refine Kd.C_drew ?_))); (case side2 => exact (Kd.R_reads' HO_6.out).2.1); rintro e w43 ⟨v436, rfl, ho0, hb⟩; have n0_ := ak (Kd.R_elder' (rx HO_6.out) (Kd.R_base ho0) hb); have n1_ := ak (Kd.R_lower (Kd.R_new' ho0 (Kd.R_lt (rx HO_6.out))) (below_size lb)); have n2_ := ak (blk_below (bx BK428.out) hb); have n3_ := ak (below_step lb hb); clear HO_6; clear BK428; clear HB; have HO_6 := n0_; have HO437 := n1_; have BK428 := n2_; have HB := n3_; clear n0_ n1_ n2_ n3_; (try clear hb); (try clear hb2); (try clear hk); (try clear hi); (try clear ho0))); try go_wp2_with (first | (go_at_call 40; (with_reducible refine (compassref04_Numbered.calls k2 _ _ x6_2 t435 _ ?side1 ?side2 A40.out).mono ?_); (case side1 => repeat (first | exact (Kd.R_reads' HO_6.out).2.2 | (with_reducible refine Kd.C_alloc ?_ _) | (with_reducible refine Kd.C_drewN ?_ _) | (with_reducible refine Kd.C_drew ?_))); (case side2 => exact (Kd.R_reads' HO_6.out).2.1); rintro e w43 ⟨v436, rfl, ho0, hb⟩; have n0_ := ak (Kd.R_elder' (rx HO_6.out) (Kd.R_base ho0) hb); have n1_ := ak (Kd.R_lower (Kd.R_new' ho0 (Kd.R_lt (rx HO_6.out))) (below_size lb)); have n2_ := ak (blk_below (bx BK428.out) hb); have n3_ := ak (below_step lb hb); clear HO_6; clear BK428; clear HB; have HO_6 := n0_; have HO437 := n1_; have BK428 := n2_; have HB := n3_; clear n0_ n1_ n2_ n3_; (try clear hb); (try clear hb2); (try clear hk); (try clear hi); (try clear ho0))))
        go_ret2
        exact ⟨_, by first | rfl | (simp [errW_none, errW_some] <;> rfl) | (simp [*, errW_none, errW_some] <;> rfl), by exact rx (Kd.R_mono HO437.out (fun _ hk => trivial)), lb⟩
 ·
  rw [if_neg c3] at H
  have c3b0 : (t429 == 0) = false := beq_eq_false_iff_ne.mpr c3
  have c3b1 : (t429 != 0) = true := bne_iff_ne.mpr c3
  simp only [Option.some.injEq, Prod.mk.injEq] at H
  obtain ⟨rfl, rfl⟩ := H
  go_enter Try.func24, Try.ntmps24
  go_wp2_with (first | ((with_reducible refine gate_dst (N := 1) rfl ?_); refine box_event ?hg (N := 1) ?hd (cs := #[.int .i64 a0_0, .slice A0_1 l0_1.length c0_1]) (t := 24) ?hr ?_; (case hd => rfl); (case hg => rfl); (case hr => first | (go_simp; done) | (go_simp; rfl)); intro gb428 hg w44 hbox hb; have n0_ := ak (below_step lb hb); have n1_ := ak (hbox); have n2_ := ak ((by rw [hg]; exact (below_size lb) : w.heap.size ≤ gb428)); have n3_ := ak ((by rw [hg]; exact (below_size lb) : w.heap.size ≤ gb428)); clear HB; have HB := n0_; have BK428 := n1_; have GW428 := n2_; have GE428 := n3_; clear n0_ n1_ n2_ n3_; clear hb hbox hg; have hcz45_0 : w44.cell? ⟨gb428, 0, none⟩ = some (.int .i64 a0_0) := (blk_cell BK428.out 0).trans rfl; have hcz45_1 : w44.cell? ⟨gb428, 1, none⟩ = some (.slice A0_1 l0_1.length c0_1) := (blk_cell BK428.out 1).trans rfl; have hfz45_0 := blk_frozen BK428.out 0; have hfz45_1 := blk_frozen BK428.out 1) | (go_at_call 34; (with_reducible refine (compassref03_Check.calls k a0_0 _ _ l0_1 t429 t430 _ ?side1 ?side2 A2.out).mono ?_); (case side1 => repeat (first | exact (Kd.C_below HR0_1.out HB.out) | (with_reducible refine Kd.C_alloc ?_ _) | (with_reducible refine Kd.C_drewN ?_ _) | (with_reducible refine Kd.C_drew ?_))); (case side2 => exact HC0_1.out); rintro e w46 ⟨rfl, hb⟩; have n0_ := ak (blk_below (bx BK428.out) hb); have n1_ := ak (below_step lb hb); clear BK428; clear HB; have BK428 := n0_; have HB := n1_; clear n0_ n1_; (try clear hb); (try clear hb2); (try clear hk); (try clear hi)))
  repeat (go_quiet (first | ((with_reducible refine gate_dst (N := 1) rfl ?_); refine box_event ?hg (N := 1) ?hd (cs := #[.int .i64 a0_0, .slice A0_1 l0_1.length c0_1]) (t := 24) ?hr ?_; (case hd => rfl); (case hg => rfl); (case hr => first | (go_simp; done) | (go_simp; rfl)); intro gb428 hg w44 hbox hb; have n0_ := ak (below_step lb hb); have n1_ := ak (hbox); have n2_ := ak ((by rw [hg]; exact (below_size lb) : w.heap.size ≤ gb428)); have n3_ := ak ((by rw [hg]; exact (below_size lb) : w.heap.size ≤ gb428)); clear HB; have HB := n0_; have BK428 := n1_; have GW428 := n2_; have GE428 := n3_; clear n0_ n1_ n2_ n3_; clear hb hbox hg; have hcz45_0 : w44.cell? ⟨gb428, 0, none⟩ = some (.int .i64 a0_0) := (blk_cell BK428.out 0).trans rfl; have hcz45_1 : w44.cell? ⟨gb428, 1, none⟩ = some (.slice A0_1 l0_1.length c0_1) := (blk_cell BK428.out 1).trans rfl; have hfz45_0 := blk_frozen BK428.out 0; have hfz45_1 := blk_frozen BK428.out 1) | (go_at_call 34; (with_reducible refine (compassref03_Check.calls k a0_0 _ _ l0_1 t429 t430 _ ?side1 ?side2 A2.out).mono ?_); (case side1 => repeat (first | exact (Kd.C_below HR0_1.out HB.out) | (with_reducible refine Kd.C_alloc ?_ _) | (with_reducible refine Kd.C_drewN ?_ _) | (with_reducible refine Kd.C_drew ?_))); (case side2 => exact HC0_1.out); rintro e w46 ⟨rfl, hb⟩; have n0_ := ak (blk_below (bx BK428.out) hb); have n1_ := ak (below_step lb hb); clear BK428; clear HB; have BK428 := n0_; have HB := n1_; clear n0_ n1_; (try clear hb); (try clear hb2); (try clear hk); (try clear hi))); try go_wp2_with (first | ((with_reducible refine gate_dst (N := 1) rfl ?_); refine box_event ?hg (N := 1) ?hd (cs := #[.int .i64 a0_0, .slice A0_1 l0_1.length c0_1]) (t := 24) ?hr ?_; (case hd => rfl); (case hg => rfl); (case hr => first | (go_simp; done) | (go_simp; rfl)); intro gb428 hg w44 hbox hb; have n0_ := ak (below_step lb hb); have n1_ := ak (hbox); have n2_ := ak ((by rw [hg]; exact (below_size lb) : w.heap.size ≤ gb428)); have n3_ := ak ((by rw [hg]; exact (below_size lb) : w.heap.size ≤ gb428)); clear HB; have HB := n0_; have BK428 := n1_; have GW428 := n2_; have GE428 := n3_; clear n0_ n1_ n2_ n3_; clear hb hbox hg; have hcz45_0 : w44.cell? ⟨gb428, 0, none⟩ = some (.int .i64 a0_0) := (blk_cell BK428.out 0).trans rfl; have hcz45_1 : w44.cell? ⟨gb428, 1, none⟩ = some (.slice A0_1 l0_1.length c0_1) := (blk_cell BK428.out 1).trans rfl; have hfz45_0 := blk_frozen BK428.out 0; have hfz45_1 := blk_frozen BK428.out 1) | (go_at_call 34; (with_reducible refine (compassref03_Check.calls k a0_0 _ _ l0_1 t429 t430 _ ?side1 ?side2 A2.out).mono ?_); (case side1 => repeat (first | exact (Kd.C_below HR0_1.out HB.out) | (with_reducible refine Kd.C_alloc ?_ _) | (with_reducible refine Kd.C_drewN ?_ _) | (with_reducible refine Kd.C_drew ?_))); (case side2 => exact HC0_1.out); rintro e w46 ⟨rfl, hb⟩; have n0_ := ak (blk_below (bx BK428.out) hb); have n1_ := ak (below_step lb hb); clear BK428; clear HB; have BK428 := n0_; have HB := n1_; clear n0_ n1_; (try clear hb); (try clear hb2); (try clear hk); (try clear hi))))
  go_ret2
  exact ⟨_, by first | rfl | (simp [errW_none, errW_some] <;> rfl) | (simp [*, errW_none, errW_some] <;> rfl), by first | exact Kd.R_nil _ _ _ _ _ | exact Kd.N_nil _ _ _ _ _ | exact Kd.V_nil _ _ _ _ _ | exact Kd.Q_nil _ _ _ _ _ | exact Kd.S_nil _ _ _ _ _, lb⟩

end Go.Proofs.Ytacklfnnpiobgaa.Q
