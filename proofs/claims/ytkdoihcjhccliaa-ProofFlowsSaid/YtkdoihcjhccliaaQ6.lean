-- PRINTED by print.py (a twelfth state) out of the translation. Not trusted: Lean checks it.
import Derived.Test.YtkdoihcjhccliaaQ0
import Derived.Test.YtkdoihcjhccliaaQ3
namespace Go.Proofs.Ytkdoihcjhccliaa.Q
open Go.RowKit Go.Proofs.YtkdoihcjhccliaaW.PrintWords Go.Proofs.YtkdoihcjhccliaaW.PrintLast Go.Proofs.YtkdoihcjhccliaaW.PrintMore
attribute [local go_sem] max2_int min2_int max_two min_two max_three min_three max_four min_four   -- for this text's walks alone
set_option linter.unusedVariables false
set_option linter.unusedSimpArgs false

/-! ### proof_carried: function 52 -/
def proof_carried.l0 : Nat → List Int → List Int → List (S98) → Int → Int → Option (Int × List Int)
  | 0, _, _, _, _, _ => none
  | k + 1, x1, x5, x19, x20, x21 => if x21 < x20 then (if 0 ≤ x21 then (if x21 < (x19.length : Int) then (if x21 < (x1.length : Int) then (if (rd x1 x21) ≥ 0 then (if (rd x1 x21) ≤ ((rd_T98 x19 x21).f2) then (if 0 ≤ ((rd_T98 x19 x21).f0) then (if ((rd_T98 x19 x21).f0) < (x5.length : Int) then ((some (x5.set (((rd_T98 x19 x21).f0) : Int).toNat (wrap64 ((rd x5 ((rd_T98 x19 x21).f0)) + (rd x1 x21))) : List Int)).bind fun y122 => (if 0 ≤ ((rd_T98 x19 x21).f1) then (if ((rd_T98 x19 x21).f1) < (x5.length : Int) then (proof_carried.l0 k x1 (y122.set (((rd_T98 x19 x21).f1) : Int).toNat (wrap64 ((rd y122 ((rd_T98 x19 x21).f1)) - (rd x1 x21)))) x19 x20 (wrap64 (x21 + 1))) else (none)) else (none))) else (none)) else (none)) else (some (221, ([] : List Int)))) else (some (221, ([] : List Int)))) else (none)) else (none)) else (none)) else (some (0, x5))
def proof_carried.f (k : Nat) (a0_0 : Int) (l0_1 : List (S98)) (l1 : List Int) : Option (Int × List Int) := if (l1.length : Int) = (l0_1.length : Int) then (if 0 ≤ a0_0 then (if (a0_0 : Int).toNat ≤ 35184372088832 then (proof_carried.l0 k l1 (List.replicate (a0_0 : Int).toNat 0) l0_1 (l0_1.length : Int) 0) else (none)) else (none)) else (some (221, ([] : List Int)))
theorem proof_carried.mono_l : ∀ k, (∀ y0 y1 y2 y3 y4, LeO (proof_carried.l0 k y0 y1 y2 y3 y4) (proof_carried.l0 (k + 1) y0 y1 y2 y3 y4))
  | 0 => fun _ _ _ _ _ r h => by simp [proof_carried.l0] at h
  | k + 1 => by
    have ih0 := proof_carried.mono_l k
    · intro y0 y1 y2 y3 y4
      unfold proof_carried.l0
      repeat' first
      | (with_reducible exact ih0 _ _ _ _ _)
      | (with_reducible exact LeO.refl _)
      | (with_reducible exact LeO.none _)
      | (with_reducible refine LeO.ite ?_ ?_)
      | (with_reducible refine LeO.bind ?_ (fun _ => ?_))
      | exact ih0 _ _ _ _ _
      | exact LeO.none _
      | refine LeO.ite ?_ ?_
      | refine LeO.bind ?_ (fun _ => ?_)
theorem proof_carried.mono : ∀ a0 a1 a2 k, LeO (proof_carried.f k a0 a1 a2) (proof_carried.f (k + 1) a0 a1 a2) := by
  intro a0 a1 a2 k
  have ih0 := proof_carried.mono_l k
  unfold proof_carried.f
  repeat' first
      | (with_reducible exact ih0 _ _ _ _ _)
      | (with_reducible exact LeO.refl _)
      | (with_reducible exact LeO.none _)
      | (with_reducible refine LeO.ite ?_ ?_)
      | (with_reducible refine LeO.bind ?_ (fun _ => ?_))
      | exact ih0 _ _ _ _ _
      | exact LeO.none _
      | refine LeO.ite ?_ ?_
      | refine LeO.bind ?_ (fun _ => ?_)
def proof_carried.T6 : Bool × List (List Nat × List Nat) := (true, [([], []), ([], []), ([0, 1], [0, 1]), ([2], [2]), ([3], [3]), ([4], [4]), ([5], [5]), ([5], [5]), ([6, 7, 5], [5, 6, 7]), ([8, 5], [5, 8]), ([5], [5]), ([10, 5], [5, 10]), ([9, 11, 5], [5, 9, 11]), ([5, 12], [5, 12]), ([13, 5], [13])])
def proof_carried.B6 : List Nat := [0, 0, 3, 7, 15, 31, 63, 63, 255, 511, 63, 1087, 4095, 8191, 16383]
theorem proof_carried.tab6 : rtab .any (opsOf Try.f52 6) = proof_carried.T6 := by kernel_rfl
theorem proof_carried.bits6 : waitsOk proof_carried.T6.2 proof_carried.B6 = true := by kernel_rfl
def proof_carried.T7 : Bool × List (List Nat × List Nat) := (true, [([], []), ([], []), ([1], [1]), ([0, 2], [0, 2]), ([3], [3]), ([], []), ([], []), ([5, 6], [5, 6]), ([7], [7]), ([4, 8], [4, 8]), ([0, 2, 0, 1, 2, 3, 4, 5, 6, 7, 8, 9], [0, 2]), ([10, 9, 0, 1, 2, 3, 4, 5, 6, 7, 8, 9], [9, 10])])
def proof_carried.B7 : List Nat := [0, 0, 2, 7, 15, 0, 0, 96, 224, 511, 1023, 2047]
theorem proof_carried.tab7 : rtab .any (opsOf Try.f52 7) = proof_carried.T7 := by kernel_rfl
theorem proof_carried.bits7 : waitsOk proof_carried.T7.2 proof_carried.B7 = true := by kernel_rfl
def proof_carried.T8 : Bool × List (List Nat × List Nat) := (true, [([], []), ([], []), ([1], [1]), ([0, 2], [0, 2]), ([3], [3]), ([], []), ([], []), ([5, 6], [5, 6]), ([7], [7]), ([4, 8], [4, 8]), ([0, 2, 0, 1, 2, 3, 4, 5, 6, 7, 8, 9], [0, 2]), ([10, 9, 0, 1, 2, 3, 4, 5, 6, 7, 8, 9], [9, 10])])
def proof_carried.B8 : List Nat := [0, 0, 2, 7, 15, 0, 0, 96, 224, 511, 1023, 2047]
theorem proof_carried.tab8 : rtab .any (opsOf Try.f52 8) = proof_carried.T8 := by kernel_rfl
theorem proof_carried.bits8 : waitsOk proof_carried.T8.2 proof_carried.B8 = true := by kernel_rfl
set_option maxHeartbeats 8000000 in
set_option maxRecDepth 100000 in
theorem proof_carried.calls (k : Nat) (a0_0 : Int) (A0_1 : Option Addr) (c0_1 : Nat) (l0_1 : List (S98)) (A1 : Option Addr) (c1 : Nat) (l1 : List Int) (r1 : Int) (r2 : List Int) (w : World) (hr0_1 : Kd.C k98 w A0_1 l0_1.length l0_1) (hc0_1 : l0_1.length ≤ c0_1) (hr1 : Kd.C (Kd.int .i64) w A1 l1.length l1) (hc1 : l1.length ≤ c1) (h : proof_carried.f k a0_0 l0_1 l1 = some (r1, r2)) :
    Calls Try.prog 52 #[.agg #[.int .i64 a0_0, .slice A0_1 l0_1.length c0_1], .slice A1 l1.length c1] w fun e w' => Gave r1 (∃ v1_ : Value, e = .returned (v1_) ∧ Kd.R (Kd.int .i64) 2 w' w.heap.size (fun _ => True) v1_ r2 ∧ Below w.heap.size w w') (e = gave r1 ∧ Below w.heap.size w w') := by
 have hu24 := Try.underlying24
 have hu98 := Try.underlying98
 have HR0_1 := ak hr0_1
 have HC0_1 := ak hc0_1
 clear hr0_1 hc0_1
 have HR1 := ak hr1
 have HC1 := ak hc1
 clear hr1 hc1
 have HB := ak (Below.refl w.heap.size w)
 have H : (if (l1.length : Int) = (l0_1.length : Int) then (if 0 ≤ a0_0 then (if (a0_0 : Int).toNat ≤ 35184372088832 then (proof_carried.l0 k l1 (List.replicate (a0_0 : Int).toNat 0) l0_1 (l0_1.length : Int) 0) else (none)) else (none)) else (some (221, ([] : List Int)))) = some (r1, r2) := h
 clear h
 by_cases c3 : (l1.length : Int) = (l0_1.length : Int)
 ·
  rw [if_pos c3] at H
  have c3b0 : ((l1.length : Int) == (l0_1.length : Int)) = true := beq_iff_eq.mpr c3
  have c3b1 : ((l1.length : Int) != (l0_1.length : Int)) = false := bne_eq_false_iff_eq.mpr c3
  have c3b2 : (l1.length == l0_1.length) = true := by first | simpa using c3 | (simp at c3 ⊢; omega)
  clear c3
  have A4 := ak (show proof_need.f true 221 = some () from rfl)
  by_cases c5 : 0 ≤ a0_0
  rotate_left
  ·
   rw [if_neg c5] at H
   exact absurd H (by simp)
  rw [if_pos c5] at H
  have c5b0 := eq_true c5
  have c5b1 : decide (0 ≤ a0_0) = true := decide_eq_true c5
  clear c5
  by_cases c6 : (a0_0 : Int).toNat ≤ 35184372088832
  rotate_left
  ·
   rw [if_neg c6] at H
   exact absurd H (by simp)
  rw [if_pos c6] at H
  have c6b0 := eq_true c6
  have c6b1 : decide ((a0_0 : Int).toNat ≤ 35184372088832) = true := decide_eq_true c6
  clear c6
  obtain ⟨y113, hy113⟩ : ∃ y_ : List Int, y_ = (List.replicate (a0_0 : Int).toNat 0) := ⟨_, rfl⟩
  replace H : (proof_carried.l0 k l1 y113 l0_1 (l0_1.length : Int) 0) = some (r1, r2) := by first | (rw [hy113]; exact H) | exact H
  have Ny113 := ak hy113
  clear hy113
  have H' := ak H
  clear H
  go_enter Try.func52, Try.ntmps52
  go_wp2_with (first | ((with_reducible refine gate_dst (N := 2) rfl ?_); refine box_event ?hg (N := 2) ?hd (cs := #[.int .i64 a0_0, .slice A0_1 l0_1.length c0_1]) (t := 24) ?hr ?_; (case hd => rfl); (case hg => rfl); (case hr => first | (go_simp; done) | (go_simp; rfl)); intro gb112 hg w7 hbox hb; have n0_ := ak (below_step lb hb); have n1_ := ak (hbox); have n2_ := ak ((by rw [hg]; exact (below_size lb) : w.heap.size ≤ gb112)); have n3_ := ak ((by rw [hg]; exact (below_size lb) : w.heap.size ≤ gb112)); clear HB; have HB := n0_; have BK112 := n1_; have GW112 := n2_; have GE112 := n3_; clear n0_ n1_ n2_ n3_; clear hb hbox hg; have hcz8_0 : w7.cell? ⟨gb112, 0, none⟩ = some (.int .i64 a0_0) := (blk_cell BK112.out 0).trans rfl; have hcz8_1 : w7.cell? ⟨gb112, 1, none⟩ = some (.slice A0_1 l0_1.length c0_1) := (blk_cell BK112.out 1).trans rfl; have hfz8_0 := blk_frozen BK112.out 0; have hfz8_1 := blk_frozen BK112.out 1) | ((with_reducible refine gate_callee (f := 51) rfl ?_); refine goesL_ (some 14) rfl rfl Try.func51 (by kernel_rfl) rfl #[.bool true, .int .i64 221] rfl (by (try simp only [List.map_toArray, List.map_cons, List.map_nil]); first | done | rfl | (simp only [List.length_drop, List.length_take]; rfl)) ?_; (with_reducible refine (proof_need.calls true 221  _ A4.out).mono ?_); rintro e w' ⟨rfl, ⟨nd, rfl⟩⟩; refine ⟨_, rfl, ?_⟩) | ((with_reducible refine gate_dst (N := 17) rfl ?_); refine Kd.R_make (Kd.int .i64) _ 2 rfl (N := 17) rfl 25 _ _ rfl a0_0 rfl rfl Try.underlying25 (.int .i64 0) 8 info2 rfl (by decide) (by omega) 0 (ok := fun _ => True) (okp := fun _ => True) rfl (fun _ hk => hk) trivial (oda) (Nat.le_trans (Nat.mul_le_mul_right _ (oda : a0_0.toNat ≤ 35184372088832)) (by omega)) (Below.refl _ _) (Nat.le_refl _) ?_; intro v114 w9 ho10 hb hg_ hnew_; clear hg_ hnew_; (first | rw [← Ny113.out] at ho10 | (simp only [Int.reduceToNat] at ho10; rw [← Ny113.out] at ho10)); have n0_ := ak (Kd.R_lower ho10 (below_size lb)); have n1_ := ak (blk_below (bx BK112.out) hb); have n2_ := ak (below_step lb hb); clear BK112; clear HB; have HO115 := n0_; have BK112 := n1_; have HB := n2_; clear n0_ n1_ n2_; clear hb ho10; have hcz11_0 : w9.cell? ⟨gb112, 0, none⟩ = some (.int .i64 a0_0) := (blk_cell BK112.out 0).trans rfl; have hcz11_1 : w9.cell? ⟨gb112, 1, none⟩ = some (.slice A0_1 l0_1.length c0_1) := (blk_cell BK112.out 1).trans rfl; have hfz11_0 := blk_frozen BK112.out 0; have hfz11_1 := blk_frozen BK112.out 1))
  go_loopg [21] k (fun kq v21 w' => ∃ (x5_1 : List Int) (x21_1 : Int), v21 = .int .i64 x21_1 ∧ Aside0 (proof_carried.l0 kq l1 x5_1 l0_1 (l0_1.length : Int) x21_1 = some (r1, r2)) ∧ Aside0 (kq ≤ k) ∧ Aside0 (Kd.R (Kd.int .i64) 2 w' w.heap.size (fun _ => True) v114 x5_1) ∧ Aside0 (w'.heap[gb112]? = some (.cells #[.int .i64 a0_0, (.slice A0_1 l0_1.length c0_1)] 24 (0, 0))) ∧ Aside0 (Below w.heap.size w w'))
  case atStart => exact ⟨(y113), (0), (by first | rfl | (simp [*]; done)), H', ⟨Nat.le_refl _⟩, ⟨rx HO115.out⟩, ⟨bx BK112.out⟩, ⟨lb⟩⟩
  case round =>
   clear H'
   try clear c1; try clear p2; try clear c3; try clear c3b0; try clear c3b1; try clear c3b2; try clear c5; try clear c5b0; try clear c5b1; try clear c6; try clear c6b0; try clear c6b1; try clear hcz11_0; try clear hcz11_1; try clear hcz8_0; try clear hcz8_1; try clear hfz11_0; try clear hfz11_1; try clear hfz8_0; try clear hfz8_1
   obtain ⟨x5_1, x21_1, rfl, HA, HK1, HO_5, BK112, HB⟩ := hrel
   cases gk with
   | zero => exact absurd HA.out (by simp [proof_carried.l0])
   | succ k1 =>
    have H := HA.out
    clear HA
    simp only [proof_carried.l0] at H
    by_cases c12 : x21_1 < (l0_1.length : Int)
    ·
     rw [if_pos c12] at H
     have c12b0 : decide (x21_1 < (l0_1.length : Int)) = true := decide_eq_true c12
     clear c12
     by_cases c13 : 0 ≤ x21_1
     rotate_left
     ·
      rw [if_neg c13] at H
      exact absurd H (by simp)
     rw [if_pos c13] at H
     have c13b0 : decide (0 ≤ x21_1) = true := decide_eq_true c13
     clear c13
     by_cases c14 : x21_1 < (l0_1.length : Int)
     rotate_left
     ·
      rw [if_neg c14] at H
      exact absurd H (by simp)
     rw [if_pos c14] at H
     have c14b0 : decide (x21_1 < (l0_1.length : Int)) = true := decide_eq_true c14
     clear c14
     by_cases c15 : x21_1 < (l1.length : Int)
     rotate_left
     ·
      rw [if_neg c15] at H
      exact absurd H (by simp)
     rw [if_pos c15] at H
     have c15b0 : decide (x21_1 < (l1.length : Int)) = true := decide_eq_true c15
     clear c15
     by_cases c16 : (rd l1 x21_1) ≥ 0
     ·
      rw [if_pos c16] at H
      have c16b0 : decide (0 ≤ (rd l1 x21_1)) = true := decide_eq_true c16
      clear c16
      by_cases c17 : (rd l1 x21_1) ≤ ((rd_T98 l0_1 x21_1).f2)
      ·
       rw [if_pos c17] at H
       have c17b0 : decide ((rd l1 x21_1) ≤ ((rd_T98 l0_1 x21_1).f2)) = true := decide_eq_true c17
       clear c17
       have A18 := ak (show proof_need.f true 221 = some () from rfl)
       by_cases c19 : 0 ≤ ((rd_T98 l0_1 x21_1).f0)
       rotate_left
       ·
        rw [if_neg c19] at H
        exact absurd H (by simp)
       rw [if_pos c19] at H
       have c19b0 : decide (0 ≤ ((rd_T98 l0_1 x21_1).f0)) = true := decide_eq_true c19
       clear c19
       by_cases c20 : ((rd_T98 l0_1 x21_1).f0) < (x5_1.length : Int)
       rotate_left
       ·
        rw [if_neg c20] at H
        exact absurd H (by simp)
       rw [if_pos c20] at H
       have c20b0 : decide (((rd_T98 l0_1 x21_1).f0) < (x5_1.length : Int)) = true := decide_eq_true c20
       clear c20
       obtain ⟨y122, hy122⟩ : ∃ y_ : List Int, y_ = (x5_1.set (((rd_T98 l0_1 x21_1).f0) : Int).toNat (wrap64 ((rd x5_1 ((rd_T98 l0_1 x21_1).f0)) + (rd l1 x21_1)))) := ⟨_, rfl⟩
       replace H : (if 0 ≤ ((rd_T98 l0_1 x21_1).f1) then (if ((rd_T98 l0_1 x21_1).f1) < (x5_1.length : Int) then (proof_carried.l0 k1 l1 (y122.set (((rd_T98 l0_1 x21_1).f1) : Int).toNat (wrap64 ((rd y122 ((rd_T98 l0_1 x21_1).f1)) - (rd l1 x21_1)))) l0_1 (l0_1.length : Int) (wrap64 (x21_1 + 1))) else (none)) else (none)) = some (r1, r2) := by first | (rw [hy122]; exact H) | exact H
       have Ny122 := ak hy122
       clear hy122
       by_cases c22 : 0 ≤ ((rd_T98 l0_1 x21_1).f1)
       rotate_left
       ·
        rw [if_neg c22] at H
        exact absurd H (by simp)
       rw [if_pos c22] at H
       have c22b0 : decide (0 ≤ ((rd_T98 l0_1 x21_1).f1)) = true := decide_eq_true c22
       clear c22
       by_cases c23 : ((rd_T98 l0_1 x21_1).f1) < (x5_1.length : Int)
       rotate_left
       ·
        rw [if_neg c23] at H
        exact absurd H (by simp)
       rw [if_pos c23] at H
       have c23b0 : decide (((rd_T98 l0_1 x21_1).f1) < (x5_1.length : Int)) = true := decide_eq_true c23
       clear c23
       obtain ⟨y125, hy125⟩ : ∃ y_ : List Int, y_ = (y122.set (((rd_T98 l0_1 x21_1).f1) : Int).toNat (wrap64 ((rd y122 ((rd_T98 l0_1 x21_1).f1)) - (rd l1 x21_1)))) := ⟨_, rfl⟩
       replace H : (proof_carried.l0 k1 l1 y125 l0_1 (l0_1.length : Int) (wrap64 (x21_1 + 1))) = some (r1, r2) := by first | (rw [hy125]; exact H) | exact H
       have Ny125 := ak hy125
       clear hy125
       have H' := ak H
       clear H
       have p116 : 0 ≤ (x21_1 : Int) := oda
       have q116 : x21_1 < (l0_1.length : Int) := oda
       obtain ⟨ad116, e116, hx116_0, hx116_1, hx116_2, hx116_3⟩ := at_T98 HR0_1.out x21_1 p116 q116
       cases e116
       (try replace hx116_0 := (HB.out.cell (World.block_lt_of_cell? w _ hx116_0)).trans hx116_0)
       (try replace hx116_1 := (HB.out.cell (World.block_lt_of_cell? w _ hx116_1)).trans hx116_1)
       (try replace hx116_2 := (HB.out.cell (World.block_lt_of_cell? w _ hx116_2)).trans hx116_2)
       (try replace hx116_3 := (HB.out.cell (World.block_lt_of_cell? w _ hx116_3)).trans hx116_3)
       replace p116 := eq_true p116
       replace q116 := eq_true q116
       try go_wp2_with (first | ((with_reducible refine gate_dst (N := 7) rfl ?_); refine box_event ?hg (N := 7) ?hd (cs := #[.int .i64 0, .int .i64 0, .int .i64 0, .int .i64 0]) (t := 98) ?hr ?_; (case hd => rfl); (case hg => rfl); (case hr => first | (go_simp; done) | (go_simp; rfl)); intro gb117 hg w25 hbox hb; have n0_ := ak (Kd.R_below (rx HO_5.out) hb); have n1_ := ak (blk_below (bx BK112.out) hb); have n2_ := ak (below_step lb hb); have n3_ := ak (hbox); have n4_ := ak ((by rw [hg]; exact (below_size lb) : w.heap.size ≤ gb117)); have n5_ := ak ((by rw [hg]; exact (below_size lb) : w.heap.size ≤ gb117)); have n6_ := ak ((by rw [hg]; exact Nat.ne_of_lt (blk_lt (g := gb112) (o := .cells #[.int .i64 a0_0, .slice (some ad116) l0_1.length c0_1] 24 (0, 0)) (bx BK112.out)) : gb112 ≠ gb117)); have n7_ := ak ((by rw [hg]; exact Nat.ne_of_gt (blk_lt (g := gb112) (o := .cells #[.int .i64 a0_0, .slice (some ad116) l0_1.length c0_1] 24 (0, 0)) (bx BK112.out)) : gb117 ≠ gb112)); clear HO_5; clear BK112; clear HB; have HO_5 := n0_; have BK112 := n1_; have HB := n2_; have BK117 := n3_; have GW117 := n4_; have GE117 := n5_; have NB112_117 := n6_; have NB117_112 := n7_; clear n0_ n1_ n2_ n3_ n4_ n5_ n6_ n7_; clear hb hbox hg; have hnb26 := NB117_112.out; have hnc26 := NB112_117.out; have hcz27_0 : w25.cell? ⟨gb117, 0, none⟩ = some (.int .i64 0) := (blk_cell BK117.out 0).trans rfl; have hcz27_1 : w25.cell? ⟨gb117, 1, none⟩ = some (.int .i64 0) := (blk_cell BK117.out 1).trans rfl; have hcz27_2 : w25.cell? ⟨gb117, 2, none⟩ = some (.int .i64 0) := (blk_cell BK117.out 2).trans rfl; have hcz27_3 : w25.cell? ⟨gb117, 3, none⟩ = some (.int .i64 0) := (blk_cell BK117.out 3).trans rfl; have hfz27_0 := blk_frozen BK117.out 0; have hfz27_1 := blk_frozen BK117.out 1; have hfz27_2 := blk_frozen BK117.out 2; have hfz27_3 := blk_frozen BK117.out 3))
       have n0_ : Aside0 (Kd.R (Kd.int .i64) 2 ((((w25.setCell ⟨gb117, 0, none⟩ (.int .i64 ((rd_T98 l0_1 x21_1).f0))).setCell ⟨gb117, 1, none⟩ (.int .i64 ((rd_T98 l0_1 x21_1).f1))).setCell ⟨gb117, 2, none⟩ (.int .i64 ((rd_T98 l0_1 x21_1).f2))).setCell ⟨gb117, 3, none⟩ (.int .i64 ((rd_T98 l0_1 x21_1).f3))) w.heap.size (fun _ => True) v114 x5_1) := ⟨by exact rx (Kd.R_mono (Kd.R_far (p := ⟨gb117, 3, none⟩) (Kd.R_far (p := ⟨gb117, 2, none⟩) (Kd.R_far (p := ⟨gb117, 1, none⟩) (Kd.R_far (p := ⟨gb117, 0, none⟩) (Kd.R_types HO_5.out BK117.out (by decide)) (fun _ hk => hk.2) (.int .i64 ((rd_T98 l0_1 x21_1).f0))) (fun _ hk => hk.2) (.int .i64 ((rd_T98 l0_1 x21_1).f1))) (fun _ hk => hk.2) (.int .i64 ((rd_T98 l0_1 x21_1).f2))) (fun _ hk => hk.2) (.int .i64 ((rd_T98 l0_1 x21_1).f3))) (fun _ hk => trivial))⟩
       have n1_ : Aside0 (((((w25.setCell ⟨gb117, 0, none⟩ (.int .i64 ((rd_T98 l0_1 x21_1).f0))).setCell ⟨gb117, 1, none⟩ (.int .i64 ((rd_T98 l0_1 x21_1).f1))).setCell ⟨gb117, 2, none⟩ (.int .i64 ((rd_T98 l0_1 x21_1).f2))).setCell ⟨gb117, 3, none⟩ (.int .i64 ((rd_T98 l0_1 x21_1).f3))).heap[gb112]? = some (.cells #[.int .i64 a0_0, .slice (some ad116) l0_1.length c0_1] 24 (0, 0))) := ⟨by (with_reducible repeat (first | refine blk_drewN ?_ _ | refine blk_drew ?_ | refine blk_alloc ?_ _)); refine blk_far ?_ NB112_117.out _; (with_reducible repeat (first | refine blk_drewN ?_ _ | refine blk_drew ?_ | refine blk_alloc ?_ _)); refine blk_far ?_ NB112_117.out _; (with_reducible repeat (first | refine blk_drewN ?_ _ | refine blk_drew ?_ | refine blk_alloc ?_ _)); refine blk_far ?_ NB112_117.out _; (with_reducible repeat (first | refine blk_drewN ?_ _ | refine blk_drew ?_ | refine blk_alloc ?_ _)); refine blk_far ?_ NB112_117.out _; exact bx BK112.out⟩
       have n2_ : Aside0 (((((w25.setCell ⟨gb117, 0, none⟩ (.int .i64 ((rd_T98 l0_1 x21_1).f0))).setCell ⟨gb117, 1, none⟩ (.int .i64 ((rd_T98 l0_1 x21_1).f1))).setCell ⟨gb117, 2, none⟩ (.int .i64 ((rd_T98 l0_1 x21_1).f2))).setCell ⟨gb117, 3, none⟩ (.int .i64 ((rd_T98 l0_1 x21_1).f3))).heap[gb117]? = some (.cells #[.int .i64 ((rd_T98 l0_1 x21_1).f0), .int .i64 ((rd_T98 l0_1 x21_1).f1), .int .i64 ((rd_T98 l0_1 x21_1).f2), .int .i64 ((rd_T98 l0_1 x21_1).f3)] 98 (0, 0))) := ⟨by (with_reducible repeat (first | refine blk_drewN ?_ _ | refine blk_drew ?_ | refine blk_alloc ?_ _)); refine blk_put (cs := #[.int .i64 ((rd_T98 l0_1 x21_1).f0), .int .i64 ((rd_T98 l0_1 x21_1).f1), .int .i64 ((rd_T98 l0_1 x21_1).f2), .int .i64 0]) ?_ 3 _ rfl; (with_reducible repeat (first | refine blk_drewN ?_ _ | refine blk_drew ?_ | refine blk_alloc ?_ _)); refine blk_put (cs := #[.int .i64 ((rd_T98 l0_1 x21_1).f0), .int .i64 ((rd_T98 l0_1 x21_1).f1), .int .i64 0, .int .i64 0]) ?_ 2 _ rfl; (with_reducible repeat (first | refine blk_drewN ?_ _ | refine blk_drew ?_ | refine blk_alloc ?_ _)); refine blk_put (cs := #[.int .i64 ((rd_T98 l0_1 x21_1).f0), .int .i64 0, .int .i64 0, .int .i64 0]) ?_ 1 _ rfl; (with_reducible repeat (first | refine blk_drewN ?_ _ | refine blk_drew ?_ | refine blk_alloc ?_ _)); refine blk_put (cs := #[.int .i64 0, .int .i64 0, .int .i64 0, .int .i64 0]) ?_ 0 _ rfl; exact bx BK117.out⟩
       have n3_ : Aside0 (Below w.heap.size w ((((w25.setCell ⟨gb117, 0, none⟩ (.int .i64 ((rd_T98 l0_1 x21_1).f0))).setCell ⟨gb117, 1, none⟩ (.int .i64 ((rd_T98 l0_1 x21_1).f1))).setCell ⟨gb117, 2, none⟩ (.int .i64 ((rd_T98 l0_1 x21_1).f2))).setCell ⟨gb117, 3, none⟩ (.int .i64 ((rd_T98 l0_1 x21_1).f3)))) := ⟨lb⟩
       (try clear HO_5)
       (try clear BK112)
       (try clear BK117)
       (try clear HB)
       generalize ((((w25.setCell ⟨gb117, 0, none⟩ (.int .i64 ((rd_T98 l0_1 x21_1).f0))).setCell ⟨gb117, 1, none⟩ (.int .i64 ((rd_T98 l0_1 x21_1).f1))).setCell ⟨gb117, 2, none⟩ (.int .i64 ((rd_T98 l0_1 x21_1).f2))).setCell ⟨gb117, 3, none⟩ (.int .i64 ((rd_T98 l0_1 x21_1).f3))) = w28 at n0_ n1_ n2_ n3_ ⊢
       have HO_5 := n0_
       have BK112 := n1_
       have BK117 := n2_
       have HB := n3_
       clear n0_ n1_ n2_ n3_
       have n0_ := ak (Kd.R_drew HO_5.out)
       have n1_ := ak (blk_drew BK112.out)
       have n2_ := ak (blk_drew BK117.out)
       have n3_ := ak (below_drew1 HB.out)
       clear HO_5
       clear BK112
       clear BK117
       clear HB
       have HO_5 := n0_
       have BK112 := n1_
       have BK117 := n2_
       have HB := n3_
       clear n0_ n1_ n2_ n3_
       have p118 : 0 ≤ (x21_1 : Int) := oda
       have q118 : x21_1 < (l1.length : Int) := oda
       obtain ⟨ad118, e118, hx118_0⟩ := Kd.at_int HR1.out x21_1 p118 q118
       have hw118_0 := hx118_0
       cases e118
       (try replace hx118_0 := (HB.out.cell (World.block_lt_of_cell? w _ hx118_0)).trans hx118_0)
       replace p118 := eq_true p118
       replace q118 := eq_true q118
       have p119 : 0 ≤ (x21_1 : Int) := oda
       have q119 : x21_1 < (l1.length : Int) := oda
       obtain ⟨ad119, e119, hx119_0⟩ := Kd.at_int HR1.out x21_1 p119 q119
       have hw119_0 := hx119_0
       obtain rfl : ad118 = ad119 := (by injection e119)
       (try replace hx119_0 := (HB.out.cell (World.block_lt_of_cell? w _ hx119_0)).trans hx119_0)
       replace p119 := eq_true p119
       replace q119 := eq_true q119
       refine start_ (n := 15) (S := fun w' => w'.cell? ⟨gb117, 0, none⟩ = some (.int .i64 ((rd_T98 l0_1 x21_1).f0)) ∧ w'.cell? ⟨gb117, 1, none⟩ = some (.int .i64 ((rd_T98 l0_1 x21_1).f1)) ∧ w'.cell? ⟨gb117, 2, none⟩ = some (.int .i64 ((rd_T98 l0_1 x21_1).f2)) ∧ w'.cell? ⟨gb117, 3, none⟩ = some (.int .i64 ((rd_T98 l0_1 x21_1).f3)) ∧ w'.cell? (ad118.add (x21_1).toNat) = some (.int .i64 (rd l1 x21_1)) ∧ w'.cell? (ad118.add (x21_1).toNat) = some (.int .i64 (rd l1 x21_1))) (ds := []) #[false, false, false, false, false, false, false, false, false, false, false, false, false, false, false] (by kernel_rfl) rfl rfl ⟨(blk_cell BK117.out 0).trans rfl, (blk_cell BK117.out 1).trans rfl, (blk_cell BK117.out 2).trans rfl, (blk_cell BK117.out 3).trans rfl, ((HB.out.cell (World.block_lt_of_cell? w _ hw118_0)).trans hw118_0), ((HB.out.cell (World.block_lt_of_cell? w _ hw119_0)).trans hw119_0)⟩ (fun hHeld => ?_); refine with_tabW proof_carried.tab6 proof_carried.bits6 (fun HT_ HW_ => ?_)
       generalize w28.drew = w29 at HO_5 BK112 BK117 HB hx118_0 hx119_0 hHeld ⊢
       refine pure_ (i := 0) (N := some 26) (v := ?_) (a' := ?_) #[true, false, false, false, false, false, false, false, false, false, false, false, false, false, false] rfl rfl (any_of HT_.out (by kernel_rfl)) (fun _ _ _ h => h) (Or.inl ⟨by rfl, ?_⟩) ?_ ?_; rotate_left; intro w'; go_simp; with_reducible rfl; rotate_left; simp only [Act.put, List.setIfInBounds_toArray, List.set_cons_zero, List.set_cons_succ, i64_w, i32_w]; rfl
       refine pure_ (i := 1) (N := some 27) (v := ?_) (a' := ?_) #[true, true, false, false, false, false, false, false, false, false, false, false, false, false, false] rfl rfl (any_of HT_.out (by kernel_rfl)) (fun _ _ _ h => h) (Or.inl ⟨by rfl, ?_⟩) ?_ ?_; rotate_left; intro w'; go_simp; with_reducible rfl; rotate_left; simp only [Act.put, List.setIfInBounds_toArray, List.set_cons_zero, List.set_cons_succ, i64_w, i32_w]; rfl
       refine pure_ (i := 2) (N := some 28) (v := ?_) (a' := ?_) #[true, true, true, false, false, false, false, false, false, false, false, false, false, false, false] rfl rfl (any_of HT_.out (by kernel_rfl)) (fun _ _ _ h => h) (Or.inl ⟨by rfl, ?_⟩) ?_ ?_; rotate_left; intro w'; go_simp; with_reducible rfl; rotate_left; simp only [Act.put, List.setIfInBounds_toArray, List.set_cons_zero, List.set_cons_succ, i64_w, i32_w]; rfl
       refine take_ (i := 3) (N := some 29) (v := ?_) (a' := ?_) #[true, true, true, true, false, false, false, false, false, false, false, false, false, false, false] rfl rfl (take_ofW HT_.out HW_.out (by kernel_rfl)) (fun _ _ _ h => h) (Or.inl ⟨by rfl, ?_⟩) hHeld ?_ ?_; rotate_left; rintro w' ⟨s0, s1, s2, s3, s4, s5⟩; go_simp; with_reducible rfl; rotate_left; simp only [Act.put, List.setIfInBounds_toArray, List.set_cons_zero, List.set_cons_succ, i64_w, i32_w]; rfl
       refine pure_ (i := 4) (N := some 30) (v := ?_) (a' := ?_) #[true, true, true, true, true, false, false, false, false, false, false, false, false, false, false] rfl rfl (any_of HT_.out (by kernel_rfl)) (fun _ _ _ h => h) (Or.inl ⟨by rfl, ?_⟩) ?_ ?_; rotate_left; intro w'; go_simp; with_reducible rfl; rotate_left; simp only [Act.put, List.setIfInBounds_toArray, List.set_cons_zero, List.set_cons_succ, i64_w, i32_w]; rfl
       refine pure_ (i := 5) (N := some 31) (v := ?_) (a' := ?_) #[true, true, true, true, true, true, false, false, false, false, false, false, false, false, false] rfl rfl (any_of HT_.out (by kernel_rfl)) (fun _ _ _ h => h) (Or.inl ⟨by rfl, ?_⟩) ?_ ?_; rotate_left; intro w'; go_simp; with_reducible rfl; rotate_left; simp only [Act.put, List.setIfInBounds_toArray, List.set_cons_zero, List.set_cons_succ, i64_w, i32_w]; rfl
       refine pure_ (i := 6) (N := some 32) (v := ?_) (a' := ?_) #[true, true, true, true, true, true, true, false, false, false, false, false, false, false, false] rfl rfl (any_of HT_.out (by kernel_rfl)) (fun _ _ _ h => h) (Or.inl ⟨by rfl, ?_⟩) ?_ ?_; rotate_left; intro w'; go_simp; with_reducible rfl; rotate_left; simp only [Act.put, List.setIfInBounds_toArray, List.set_cons_zero, List.set_cons_succ, i64_w, i32_w]; rfl
       refine pure_ (i := 7) (N := some 33) (v := ?_) (a' := ?_) #[true, true, true, true, true, true, true, true, false, false, false, false, false, false, false] rfl rfl (any_of HT_.out (by kernel_rfl)) (fun _ _ _ h => h) (Or.inl ⟨by rfl, ?_⟩) ?_ ?_; rotate_left; intro w'; go_simp; with_reducible rfl; rotate_left; simp only [Act.put, List.setIfInBounds_toArray, List.set_cons_zero, List.set_cons_succ, i64_w, i32_w]; rfl
       refine pure_ (i := 8) (N := some 34) (v := ?_) (a' := ?_) #[true, true, true, true, true, true, true, true, true, false, false, false, false, false, false] rfl rfl (any_of HT_.out (by kernel_rfl)) (fun _ _ _ h => h) (Or.inl ⟨by rfl, ?_⟩) ?_ ?_; rotate_left; intro w'; go_simp; with_reducible rfl; rotate_left; simp only [Act.put, List.setIfInBounds_toArray, List.set_cons_zero, List.set_cons_succ, i64_w, i32_w]; rfl
       refine pure_ (i := 10) (N := some 36) (v := ?_) (a' := ?_) #[true, true, true, true, true, true, true, true, true, false, true, false, false, false, false] rfl rfl (any_of HT_.out (by kernel_rfl)) (fun _ _ _ h => h) (Or.inl ⟨by rfl, ?_⟩) ?_ ?_; rotate_left; intro w'; go_simp; with_reducible rfl; rotate_left; simp only [Act.put, List.setIfInBounds_toArray, List.set_cons_zero, List.set_cons_succ, i64_w, i32_w]; rfl
       refine take_ (i := 9) (N := some 35) (v := ?_) (a' := ?_) #[true, true, true, true, true, true, true, true, true, true, true, false, false, false, false] rfl rfl (take_ofW HT_.out HW_.out (by kernel_rfl)) (fun _ _ _ h => h) (Or.inl ⟨by rfl, ?_⟩) hHeld ?_ ?_; rotate_left; rintro w' ⟨s0, s1, s2, s3, s4, s5⟩; go_simp; with_reducible rfl; rotate_left; simp only [Act.put, List.setIfInBounds_toArray, List.set_cons_zero, List.set_cons_succ, i64_w, i32_w]; rfl
       refine take_ (i := 11) (N := some 37) (v := ?_) (a' := ?_) #[true, true, true, true, true, true, true, true, true, true, true, true, false, false, false] rfl rfl (take_ofW HT_.out HW_.out (by kernel_rfl)) (fun _ _ _ h => h) (Or.inl ⟨by rfl, ?_⟩) hHeld ?_ ?_; rotate_left; rintro w' ⟨s0, s1, s2, s3, s4, s5⟩; go_simp; with_reducible rfl; rotate_left; simp only [Act.put, List.setIfInBounds_toArray, List.set_cons_zero, List.set_cons_succ, i64_w, i32_w]; rfl
       refine pure_ (i := 12) (N := some 38) (v := ?_) (a' := ?_) #[true, true, true, true, true, true, true, true, true, true, true, true, true, false, false] rfl rfl (any_of HT_.out (by kernel_rfl)) (fun _ _ _ h => h) (Or.inl ⟨by rfl, ?_⟩) ?_ ?_; rotate_left; intro w'; go_simp; with_reducible rfl; rotate_left; simp only [Act.put, List.setIfInBounds_toArray, List.set_cons_zero, List.set_cons_succ, i64_w, i32_w]; rfl
       refine pure_ (i := 13) (N := some 39) (v := ?_) (a' := ?_) #[true, true, true, true, true, true, true, true, true, true, true, true, true, true, false] rfl rfl (any_of HT_.out (by kernel_rfl)) (fun _ _ _ h => h) (Or.inl ⟨by rfl, ?_⟩) ?_ ?_; rotate_left; intro w'; go_simp; with_reducible rfl; rotate_left; simp only [Act.put, List.setIfInBounds_toArray, List.set_cons_zero, List.set_cons_succ, i64_w, i32_w]; rfl
       refine one_ (i := 14) (N := some 40) #[true, true, true, true, true, true, true, true, true, true, true, true, true, true, true] rfl rfl (one_of HT_.out (by kernel_rfl)) (by decide) (fun K hK => ?_)
       refine goes_ Try.func51 (by kernel_rfl) rfl #[.bool true, .int .i64 221] (by rfl) rfl rfl (by (try simp only [List.map_toArray, List.map_cons, List.map_nil]); first | done | rfl | (simp only [List.length_drop, List.length_take]; rfl)) ?_
       with_reducible refine (proof_need.calls true 221  _ A18.out).mono ?_
       rintro e w' ⟨rfl, ⟨nd, rfl⟩⟩
       refine ⟨_, rfl, ?_⟩
       refine hK.out _ _ ⟨(blk_cell BK117.out 0).trans rfl, (blk_cell BK117.out 1).trans rfl, (blk_cell BK117.out 2).trans rfl, (blk_cell BK117.out 3).trans rfl, ((HB.out.cell (World.block_lt_of_cell? w _ hw118_0)).trans hw118_0), ((HB.out.cell (World.block_lt_of_cell? w _ hw119_0)).trans hw119_0)⟩ (fun hHeld => ?_)
       clear hK K
       refine norm_ (a' := ?_) ?_ ?_
       rotate_left
       ·
        show Act.put _ (some 40) _ = _
        simp only [Act.put, List.setIfInBounds_toArray, List.set_cons_zero, List.set_cons_succ, i64_w, i32_w]
        rfl
       refine done_ (done_of HT_.out (by kernel_rfl)) ?_
       try go_wp2
       (try (rw [drewN_self w29]; generalize hq_ : World.drewN w29 _ = w29; have n0_ : Aside0 (Kd.R (Kd.int .i64) 2 w29 w.heap.size (fun _ => True) v114 x5_1) := ⟨by rw [← hq_]; exact (rx HO_5.out)⟩; have n1_ : Aside0 (w29.heap[gb112]? = some (.cells #[.int .i64 a0_0, .slice (some ad116) l0_1.length c0_1] 24 (0, 0))) := ⟨by rw [← hq_]; exact (bx BK112.out)⟩; have n2_ : Aside0 (w29.heap[gb117]? = some (.cells #[.int .i64 ((rd_T98 l0_1 x21_1).f0), .int .i64 ((rd_T98 l0_1 x21_1).f1), .int .i64 ((rd_T98 l0_1 x21_1).f2), .int .i64 ((rd_T98 l0_1 x21_1).f3)] 98 (0, 0))) := ⟨by rw [← hq_]; exact (bx BK117.out)⟩; have n3_ : Aside0 (Below w.heap.size w w29) := ⟨by rw [← hq_]; exact lb⟩; clear HO_5 BK112 BK117 HB hq_; have HO_5 := n0_; have BK112 := n1_; have BK117 := n2_; have HB := n3_; clear n0_ n1_ n2_ n3_))
       have n0_ := ak (Kd.R_drew HO_5.out)
       have n1_ := ak (blk_drew BK112.out)
       have n2_ := ak (blk_drew BK117.out)
       have n3_ := ak (below_drew1 HB.out)
       clear HO_5
       clear BK112
       clear BK117
       clear HB
       have HO_5 := n0_
       have BK112 := n1_
       have BK117 := n2_
       have HB := n3_
       clear n0_ n1_ n2_ n3_
       obtain ⟨Ao31, co31, eo31⟩ := Kd.R_slice HO_5.out
       (first | subst eo31 | (injection eo31 with f1_ f2_ f3_; have f4_ := f1_.symm; have f5_ := f3_.symm; clear f1_ f2_ f3_; subst f4_; subst f5_))
       have p120 : 0 ≤ (((rd_T98 l0_1 x21_1).f0) : Int) := oda
       have q120 : ((rd_T98 l0_1 x21_1).f0) < (x5_1.length : Int) := oda
       obtain ⟨ad120, e120, hx120_0⟩ := Kd.at_int (Kd.R_reads' HO_5.out).2.2 ((rd_T98 l0_1 x21_1).f0) p120 q120
       cases e120
       replace p120 := eq_true p120
       replace q120 := eq_true q120
       have p121 : 0 ≤ (x21_1 : Int) := oda
       have q121 : x21_1 < (l1.length : Int) := oda
       obtain ⟨ad121, e121, hx121_0⟩ := Kd.at_int HR1.out x21_1 p121 q121
       have hw121_0 := hx121_0
       obtain rfl : ad118 = ad121 := (by injection e121)
       (try replace hx121_0 := (HB.out.cell (World.block_lt_of_cell? w _ hx121_0)).trans hx121_0)
       replace p121 := eq_true p121
       replace q121 := eq_true q121
       have p21 : 0 ≤ (((rd_T98 l0_1 x21_1).f0) : Int) := oda
       have q21 : (((rd_T98 l0_1 x21_1).f0) : Int) < ((x5_1.length : Int) : Int) := oda
       obtain ⟨go21, co21, eo21, gb21, gl21, cl21, HG21⟩ := Kd.R_form HO_5.out (by omega)
       (first | cases eo21 | (injection eo21 with ea_ en_ ec_; (first | subst ea_ | (injection ea_ with ea_; subst ea_)); subst ec_; clear en_))
       have GB21 := ak gb21
       have GG21 := ak HG21
       clear gb21 gl21 HG21
       (first | simp only [add_plain] at hx120_0 | skip)
       obtain ⟨hx21_0, hf21_0⟩ := Kd.R_celln 0 HO_5.out (((rd_T98 l0_1 x21_1).f0) : Int) p21 q21
       replace p21 := eq_true p21
       replace q21 := eq_true q21
       have HP32 := Kd.R_putn HO_5.out (((rd_T98 l0_1 x21_1).f0) : Int) (wrap64 ((rd x5_1 ((rd_T98 l0_1 x21_1).f0)) + (rd l1 x21_1)))
       rw [← Ny122.out] at HP32
       have HQ32 := ak HP32
       clear HP32
       refine start_ (n := 12) (S := fun w' => w'.cell? ⟨gb117, 0, none⟩ = some (.int .i64 ((rd_T98 l0_1 x21_1).f0)) ∧ w'.cell? ⟨gb117, 1, none⟩ = some (.int .i64 ((rd_T98 l0_1 x21_1).f1)) ∧ w'.cell? ⟨gb117, 2, none⟩ = some (.int .i64 ((rd_T98 l0_1 x21_1).f2)) ∧ w'.cell? ⟨gb117, 3, none⟩ = some (.int .i64 ((rd_T98 l0_1 x21_1).f3)) ∧ w'.cell? ⟨go21, (((rd_T98 l0_1 x21_1).f0)).toNat, none⟩ = some (.int .i64 (rd x5_1 ((rd_T98 l0_1 x21_1).f0))) ∧ w'.cell? (ad118.add (x21_1).toNat) = some (.int .i64 (rd l1 x21_1))) (ds := [11]) #[false, false, false, false, false, false, false, false, false, false, false, false] (by kernel_rfl) rfl rfl ⟨(blk_cell BK117.out 0).trans rfl, (blk_cell BK117.out 1).trans rfl, (blk_cell BK117.out 2).trans rfl, (blk_cell BK117.out 3).trans rfl, hx120_0, ((HB.out.cell (World.block_lt_of_cell? w _ hw121_0)).trans hw121_0)⟩ (fun hHeld => ?_); refine with_tabW proof_carried.tab7 proof_carried.bits7 (fun HT_ HW_ => ?_)
       generalize w29.drew = w30 at HO_5 BK112 BK117 HB GG21 HQ32 hf21_0 hx120_0 hx121_0 hx21_0 hHeld ⊢
       refine pure_ (i := 0) (N := some 41) (v := ?_) (a' := ?_) #[true, false, false, false, false, false, false, false, false, false, false, false] rfl rfl (any_of HT_.out (by kernel_rfl)) (fun _ _ _ h => h) (Or.inl ⟨by rfl, ?_⟩) ?_ ?_; rotate_left; intro w'; go_simp; with_reducible rfl; rotate_left; simp only [Act.put, List.setIfInBounds_toArray, List.set_cons_zero, List.set_cons_succ, i64_w, i32_w]; rfl
       refine pure_ (i := 1) (N := some 42) (v := ?_) (a' := ?_) #[true, true, false, false, false, false, false, false, false, false, false, false] rfl rfl (any_of HT_.out (by kernel_rfl)) (fun _ _ _ h => h) (Or.inl ⟨by rfl, ?_⟩) ?_ ?_; rotate_left; intro w'; go_simp; with_reducible rfl; rotate_left; simp only [Act.put, List.setIfInBounds_toArray, List.set_cons_zero, List.set_cons_succ, i64_w, i32_w]; rfl
       refine pure_ (i := 5) (N := some 46) (v := ?_) (a' := ?_) #[true, true, false, false, false, true, false, false, false, false, false, false] rfl rfl (any_of HT_.out (by kernel_rfl)) (fun _ _ _ h => h) (Or.inl ⟨by rfl, ?_⟩) ?_ ?_; rotate_left; intro w'; go_simp; with_reducible rfl; rotate_left; simp only [Act.put, List.setIfInBounds_toArray, List.set_cons_zero, List.set_cons_succ, i64_w, i32_w]; rfl
       refine pure_ (i := 6) (N := some 47) (v := ?_) (a' := ?_) #[true, true, false, false, false, true, true, false, false, false, false, false] rfl rfl (any_of HT_.out (by kernel_rfl)) (fun _ _ _ h => h) (Or.inl ⟨by rfl, ?_⟩) ?_ ?_; rotate_left; intro w'; go_simp; with_reducible rfl; rotate_left; simp only [Act.put, List.setIfInBounds_toArray, List.set_cons_zero, List.set_cons_succ, i64_w, i32_w]; rfl
       refine pure_ (i := 7) (N := some 48) (v := ?_) (a' := ?_) #[true, true, false, false, false, true, true, true, false, false, false, false] rfl rfl (any_of HT_.out (by kernel_rfl)) (fun _ _ _ h => h) (Or.inl ⟨by rfl, ?_⟩) ?_ ?_; rotate_left; intro w'; go_simp; with_reducible rfl; rotate_left; simp only [Act.put, List.setIfInBounds_toArray, List.set_cons_zero, List.set_cons_succ, i64_w, i32_w]; rfl
       refine take_ (i := 2) (N := some 43) (v := ?_) (a' := ?_) #[true, true, true, false, false, true, true, true, false, false, false, false] rfl rfl (take_ofW HT_.out HW_.out (by kernel_rfl)) (fun _ _ _ h => h) (Or.inl ⟨by rfl, ?_⟩) hHeld ?_ ?_; rotate_left; rintro w' ⟨s0, s1, s2, s3, s4, s5⟩; go_simp; with_reducible rfl; rotate_left; simp only [Act.put, List.setIfInBounds_toArray, List.set_cons_zero, List.set_cons_succ, i64_w, i32_w]; rfl
       refine pure_ (i := 3) (N := some 44) (v := ?_) (a' := ?_) #[true, true, true, true, false, true, true, true, false, false, false, false] rfl rfl (any_of HT_.out (by kernel_rfl)) (fun _ _ _ h => h) (Or.inl ⟨by rfl, ?_⟩) ?_ ?_; rotate_left; intro w'; go_simp; with_reducible rfl; rotate_left; simp only [Act.put, List.setIfInBounds_toArray, List.set_cons_zero, List.set_cons_succ, i64_w, i32_w]; rfl
       refine take_ (i := 4) (N := some 45) (v := ?_) (a' := ?_) #[true, true, true, true, true, true, true, true, false, false, false, false] rfl rfl (take_ofW HT_.out HW_.out (by kernel_rfl)) (fun _ _ _ h => h) (Or.inl ⟨by rfl, ?_⟩) hHeld ?_ ?_; rotate_left; rintro w' ⟨s0, s1, s2, s3, s4, s5⟩; go_simp; with_reducible rfl; rotate_left; simp only [Act.put, List.setIfInBounds_toArray, List.set_cons_zero, List.set_cons_succ, i64_w, i32_w]; rfl
       refine take_ (i := 8) (N := some 49) (v := ?_) (a' := ?_) #[true, true, true, true, true, true, true, true, true, false, false, false] rfl rfl (take_ofW HT_.out HW_.out (by kernel_rfl)) (fun _ _ _ h => h) (Or.inl ⟨by rfl, ?_⟩) hHeld ?_ ?_; rotate_left; rintro w' ⟨s0, s1, s2, s3, s4, s5⟩; go_simp; with_reducible rfl; rotate_left; simp only [Act.put, List.setIfInBounds_toArray, List.set_cons_zero, List.set_cons_succ, i64_w, i32_w]; rfl
       refine pure_ (i := 9) (N := some 50) (v := ?_) (a' := ?_) #[true, true, true, true, true, true, true, true, true, true, false, false] rfl rfl (any_of HT_.out (by kernel_rfl)) (fun _ _ _ h => h) (Or.inl ⟨by rfl, ?_⟩) ?_ ?_; rotate_left; intro w'; go_simp; with_reducible rfl; rotate_left; simp only [Act.put, List.setIfInBounds_toArray, List.set_cons_zero, List.set_cons_succ, i64_w, i32_w]; rfl
       refine pure_ (i := 10) (N := some 51) (v := ?_) (a' := ?_) #[true, true, true, true, true, true, true, true, true, true, true, false] rfl rfl (any_of HT_.out (by kernel_rfl)) (fun _ _ _ h => h) (Or.inl ⟨by rfl, ?_⟩) ?_ ?_; rotate_left; intro w'; go_simp; with_reducible rfl; rotate_left; simp only [Act.put, List.setIfInBounds_toArray, List.set_cons_zero, List.set_cons_succ, i64_w, i32_w]; rfl
       refine last_ (i := 11) (N := none) #[true, true, true, true, true, true, true, true, true, true, true, true] rfl rfl (one_of HT_.out (by kernel_rfl)) (by decide) (fun K hK => ?_)
       refine skip_ (w1 := ?_) (by rfl) rfl ?_ ?_
       rotate_left
       ·
        go_simp
        rfl
       refine hK.out _ _ ?_
       clear hK K
       refine done_ (done_of HT_.out (by kernel_rfl)) ?_
       try go_wp2
       have n0_ : Aside0 (Kd.R (Kd.int .i64) 2 (w30.setCell ⟨go21, (((rd_T98 l0_1 x21_1).f0) : Int).toNat, none⟩ (.int .i64 (wrap64 ((rd x5_1 ((rd_T98 l0_1 x21_1).f0)) + (rd l1 x21_1))))) w.heap.size (fun _ => True) (.slice (some ⟨go21, 0, none⟩) x5_1.length co31) y122) := ⟨by (with_reducible repeat (first | apply Kd.R_alloc | apply Kd.R_drewN | apply Kd.R_drew)); exact HQ32.out⟩
       have n1_ : Aside0 ((w30.setCell ⟨go21, (((rd_T98 l0_1 x21_1).f0) : Int).toNat, none⟩ (.int .i64 (wrap64 ((rd x5_1 ((rd_T98 l0_1 x21_1).f0)) + (rd l1 x21_1))))).heap[gb112]? = some (.cells #[.int .i64 a0_0, .slice (some ad116) l0_1.length c0_1] 24 (0, 0))) := ⟨by (with_reducible repeat (first | refine blk_drewN ?_ _ | refine blk_drew ?_ | refine blk_alloc ?_ _)); refine blk_far ?_ (by have h_ := Kd.R_ne HO_5.out BK112.out (by decide); intro e_; exact h_ (by rw [e_]; rfl)) _; exact bx BK112.out⟩
       have n2_ : Aside0 ((w30.setCell ⟨go21, (((rd_T98 l0_1 x21_1).f0) : Int).toNat, none⟩ (.int .i64 (wrap64 ((rd x5_1 ((rd_T98 l0_1 x21_1).f0)) + (rd l1 x21_1))))).heap[gb117]? = some (.cells #[.int .i64 ((rd_T98 l0_1 x21_1).f0), .int .i64 ((rd_T98 l0_1 x21_1).f1), .int .i64 ((rd_T98 l0_1 x21_1).f2), .int .i64 ((rd_T98 l0_1 x21_1).f3)] 98 (0, 0))) := ⟨by (with_reducible repeat (first | refine blk_drewN ?_ _ | refine blk_drew ?_ | refine blk_alloc ?_ _)); refine blk_far ?_ (by have h_ := Kd.R_ne HO_5.out BK117.out (by decide); intro e_; exact h_ (by rw [e_]; rfl)) _; exact bx BK117.out⟩
       have n3_ : Aside0 (Below w.heap.size w (w30.setCell ⟨go21, (((rd_T98 l0_1 x21_1).f0) : Int).toNat, none⟩ (.int .i64 (wrap64 ((rd x5_1 ((rd_T98 l0_1 x21_1).f0)) + (rd l1 x21_1)))))) := ⟨by repeat (first | (with_reducible first | exact HB.out | apply below_alloc | apply pw_below_drewN | apply below_drew1 | refine below_set ?_ GB21.out | refine below_set ?_ GE112.out | refine below_set ?_ GE117.out) | exact HB.out)⟩
       (try clear HO_5)
       (try clear BK112)
       (try clear BK117)
       (try clear HB)
       generalize (w30.setCell ⟨go21, (((rd_T98 l0_1 x21_1).f0) : Int).toNat, none⟩ (.int .i64 (wrap64 ((rd x5_1 ((rd_T98 l0_1 x21_1).f0)) + (rd l1 x21_1))))) = w33 at n0_ n1_ n2_ n3_ ⊢
       have HO_5 := n0_
       have BK112 := n1_
       have BK117 := n2_
       have HB := n3_
       clear n0_ n1_ n2_ n3_
       have n0_ := ak (Kd.R_drew HO_5.out)
       have n1_ := ak (blk_drew BK112.out)
       have n2_ := ak (blk_drew BK117.out)
       have n3_ := ak (below_drew1 HB.out)
       clear HO_5
       clear BK112
       clear BK117
       clear HB
       have HO_5 := n0_
       have BK112 := n1_
       have BK117 := n2_
       have HB := n3_
       clear n0_ n1_ n2_ n3_
       have p123 : 0 ≤ (((rd_T98 l0_1 x21_1).f1) : Int) := oda
       have q123 : ((rd_T98 l0_1 x21_1).f1) < (y122.length : Int) := (by have h_ : (((rd_T98 l0_1 x21_1).f1) : Int) < ((x5_1.length : Int) : Int) := oda; first | (have e_ := (Kd.R_reads' HO_5.out).1; omega) | simpa only [Ny122.out, List.length_set] using h_)
       have ql123 : ((((rd_T98 l0_1 x21_1).f1) : Int) < ((x5_1.length : Int) : Int)) = True := eq_true (oda)
       obtain ⟨ad123, e123, hx123_0⟩ := Kd.at_int (Kd.R_reads' HO_5.out).2.2 ((rd_T98 l0_1 x21_1).f1) p123 q123
       obtain rfl : (⟨go21, 0, none⟩ : Addr) = ad123 := (by injection e123)
       (first | simp only [add_plain] at hx123_0 | simp only [add_at] at hx123_0 | simp only [Addr.add, Nat.zero_add] at hx123_0 | skip)
       replace p123 := eq_true p123
       replace q123 := eq_true q123
       have p124 : 0 ≤ (x21_1 : Int) := oda
       have q124 : x21_1 < (l1.length : Int) := oda
       obtain ⟨ad124, e124, hx124_0⟩ := Kd.at_int HR1.out x21_1 p124 q124
       have hw124_0 := hx124_0
       obtain rfl : ad118 = ad124 := (by injection e124)
       (try replace hx124_0 := (HB.out.cell (World.block_lt_of_cell? w _ hx124_0)).trans hx124_0)
       replace p124 := eq_true p124
       replace q124 := eq_true q124
       have p24 : 0 ≤ (((rd_T98 l0_1 x21_1).f1) : Int) := oda
       have q24 : (((rd_T98 l0_1 x21_1).f1) : Int) < ((x5_1.length : Int) : Int) := oda
       obtain ⟨hx24_0, hf24_0⟩ := Kd.R_celln 0 HO_5.out (((rd_T98 l0_1 x21_1).f1) : Int) p24 q24
       replace p24 := eq_true p24
       replace q24 := eq_true q24
       have HP35 := Kd.R_putn HO_5.out (((rd_T98 l0_1 x21_1).f1) : Int) (wrap64 ((rd y122 ((rd_T98 l0_1 x21_1).f1)) - (rd l1 x21_1)))
       rw [← Ny125.out] at HP35
       have HQ35 := ak HP35
       clear HP35
       refine start_ (n := 12) (S := fun w' => w'.cell? ⟨gb117, 0, none⟩ = some (.int .i64 ((rd_T98 l0_1 x21_1).f0)) ∧ w'.cell? ⟨gb117, 1, none⟩ = some (.int .i64 ((rd_T98 l0_1 x21_1).f1)) ∧ w'.cell? ⟨gb117, 2, none⟩ = some (.int .i64 ((rd_T98 l0_1 x21_1).f2)) ∧ w'.cell? ⟨gb117, 3, none⟩ = some (.int .i64 ((rd_T98 l0_1 x21_1).f3)) ∧ w'.cell? ⟨go21, (((rd_T98 l0_1 x21_1).f1)).toNat, none⟩ = some (.int .i64 (rd y122 ((rd_T98 l0_1 x21_1).f1))) ∧ w'.cell? (ad118.add (x21_1).toNat) = some (.int .i64 (rd l1 x21_1))) (ds := [11]) #[false, false, false, false, false, false, false, false, false, false, false, false] (by kernel_rfl) rfl rfl ⟨(blk_cell BK117.out 0).trans rfl, (blk_cell BK117.out 1).trans rfl, (blk_cell BK117.out 2).trans rfl, (blk_cell BK117.out 3).trans rfl, hx123_0, ((HB.out.cell (World.block_lt_of_cell? w _ hw124_0)).trans hw124_0)⟩ (fun hHeld => ?_); refine with_tabW proof_carried.tab8 proof_carried.bits8 (fun HT_ HW_ => ?_)
       generalize w33.drew = w34 at HO_5 BK112 BK117 HB HQ32 HQ35 hf24_0 hx123_0 hx124_0 hx24_0 hHeld ⊢
       refine pure_ (i := 0) (N := some 52) (v := ?_) (a' := ?_) #[true, false, false, false, false, false, false, false, false, false, false, false] rfl rfl (any_of HT_.out (by kernel_rfl)) (fun _ _ _ h => h) (Or.inl ⟨by rfl, ?_⟩) ?_ ?_; rotate_left; intro w'; go_simp; with_reducible rfl; rotate_left; simp only [Act.put, List.setIfInBounds_toArray, List.set_cons_zero, List.set_cons_succ, i64_w, i32_w]; rfl
       refine pure_ (i := 1) (N := some 53) (v := ?_) (a' := ?_) #[true, true, false, false, false, false, false, false, false, false, false, false] rfl rfl (any_of HT_.out (by kernel_rfl)) (fun _ _ _ h => h) (Or.inl ⟨by rfl, ?_⟩) ?_ ?_; rotate_left; intro w'; go_simp; with_reducible rfl; rotate_left; simp only [Act.put, List.setIfInBounds_toArray, List.set_cons_zero, List.set_cons_succ, i64_w, i32_w]; rfl
       refine pure_ (i := 5) (N := some 57) (v := ?_) (a' := ?_) #[true, true, false, false, false, true, false, false, false, false, false, false] rfl rfl (any_of HT_.out (by kernel_rfl)) (fun _ _ _ h => h) (Or.inl ⟨by rfl, ?_⟩) ?_ ?_; rotate_left; intro w'; go_simp; with_reducible rfl; rotate_left; simp only [Act.put, List.setIfInBounds_toArray, List.set_cons_zero, List.set_cons_succ, i64_w, i32_w]; rfl
       refine pure_ (i := 6) (N := some 58) (v := ?_) (a' := ?_) #[true, true, false, false, false, true, true, false, false, false, false, false] rfl rfl (any_of HT_.out (by kernel_rfl)) (fun _ _ _ h => h) (Or.inl ⟨by rfl, ?_⟩) ?_ ?_; rotate_left; intro w'; go_simp; with_reducible rfl; rotate_left; simp only [Act.put, List.setIfInBounds_toArray, List.set_cons_zero, List.set_cons_succ, i64_w, i32_w]; rfl
       refine pure_ (i := 7) (N := some 59) (v := ?_) (a' := ?_) #[true, true, false, false, false, true, true, true, false, false, false, false] rfl rfl (any_of HT_.out (by kernel_rfl)) (fun _ _ _ h => h) (Or.inl ⟨by rfl, ?_⟩) ?_ ?_; rotate_left; intro w'; go_simp; with_reducible rfl; rotate_left; simp only [Act.put, List.setIfInBounds_toArray, List.set_cons_zero, List.set_cons_succ, i64_w, i32_w]; rfl
       refine take_ (i := 2) (N := some 54) (v := ?_) (a' := ?_) #[true, true, true, false, false, true, true, true, false, false, false, false] rfl rfl (take_ofW HT_.out HW_.out (by kernel_rfl)) (fun _ _ _ h => h) (Or.inl ⟨by rfl, ?_⟩) hHeld ?_ ?_; rotate_left; rintro w' ⟨s0, s1, s2, s3, s4, s5⟩; go_simp; with_reducible rfl; rotate_left; simp only [Act.put, List.setIfInBounds_toArray, List.set_cons_zero, List.set_cons_succ, i64_w, i32_w]; rfl
       refine pure_ (i := 3) (N := some 55) (v := ?_) (a' := ?_) #[true, true, true, true, false, true, true, true, false, false, false, false] rfl rfl (any_of HT_.out (by kernel_rfl)) (fun _ _ _ h => h) (Or.inl ⟨by rfl, ?_⟩) ?_ ?_; rotate_left; intro w'; go_simp; with_reducible rfl; rotate_left; simp only [Act.put, List.setIfInBounds_toArray, List.set_cons_zero, List.set_cons_succ, i64_w, i32_w]; rfl
       refine take_ (i := 4) (N := some 56) (v := ?_) (a' := ?_) #[true, true, true, true, true, true, true, true, false, false, false, false] rfl rfl (take_ofW HT_.out HW_.out (by kernel_rfl)) (fun _ _ _ h => h) (Or.inl ⟨by rfl, ?_⟩) hHeld ?_ ?_; rotate_left; rintro w' ⟨s0, s1, s2, s3, s4, s5⟩; go_simp; with_reducible rfl; rotate_left; simp only [Act.put, List.setIfInBounds_toArray, List.set_cons_zero, List.set_cons_succ, i64_w, i32_w]; rfl
       refine take_ (i := 8) (N := some 60) (v := ?_) (a' := ?_) #[true, true, true, true, true, true, true, true, true, false, false, false] rfl rfl (take_ofW HT_.out HW_.out (by kernel_rfl)) (fun _ _ _ h => h) (Or.inl ⟨by rfl, ?_⟩) hHeld ?_ ?_; rotate_left; rintro w' ⟨s0, s1, s2, s3, s4, s5⟩; go_simp; with_reducible rfl; rotate_left; simp only [Act.put, List.setIfInBounds_toArray, List.set_cons_zero, List.set_cons_succ, i64_w, i32_w]; rfl
       refine pure_ (i := 9) (N := some 61) (v := ?_) (a' := ?_) #[true, true, true, true, true, true, true, true, true, true, false, false] rfl rfl (any_of HT_.out (by kernel_rfl)) (fun _ _ _ h => h) (Or.inl ⟨by rfl, ?_⟩) ?_ ?_; rotate_left; intro w'; go_simp; with_reducible rfl; rotate_left; simp only [Act.put, List.setIfInBounds_toArray, List.set_cons_zero, List.set_cons_succ, i64_w, i32_w]; rfl
       refine pure_ (i := 10) (N := some 62) (v := ?_) (a' := ?_) #[true, true, true, true, true, true, true, true, true, true, true, false] rfl rfl (any_of HT_.out (by kernel_rfl)) (fun _ _ _ h => h) (Or.inl ⟨by rfl, ?_⟩) ?_ ?_; rotate_left; intro w'; go_simp; with_reducible rfl; rotate_left; simp only [Act.put, List.setIfInBounds_toArray, List.set_cons_zero, List.set_cons_succ, i64_w, i32_w]; rfl
       refine last_ (i := 11) (N := none) #[true, true, true, true, true, true, true, true, true, true, true, true] rfl rfl (one_of HT_.out (by kernel_rfl)) (by decide) (fun K hK => ?_)
       refine skip_ (w1 := ?_) (by rfl) rfl ?_ ?_
       rotate_left
       ·
        go_simp
        rfl
       refine hK.out _ _ ?_
       clear hK K
       refine done_ (done_of HT_.out (by kernel_rfl)) ?_
       try go_wp2
       go_roundg k1
       case measure => have := HK1.out; omega
       case rel => exact ⟨(y125), (wrap64 (x21_1 + 1)), (by first | rfl | (simp [*]; done)), H', ⟨by have := HK1.out; omega⟩, ⟨by (with_reducible repeat (first | apply Kd.R_alloc | apply Kd.R_drewN | apply Kd.R_drew)); exact HQ35.out⟩, ⟨by (with_reducible repeat (first | refine blk_drewN ?_ _ | refine blk_drew ?_ | refine blk_alloc ?_ _)); refine blk_far ?_ (by have h_ := Kd.R_ne HO_5.out BK112.out (by decide); intro e_; exact h_ (by rw [e_]; rfl)) _; exact bx BK112.out⟩, ⟨by repeat (first | (with_reducible first | exact HB.out | apply below_alloc | apply pw_below_drewN | apply below_drew1 | refine below_set ?_ GB21.out | refine below_set ?_ GE112.out | refine below_set ?_ GE117.out) | exact HB.out)⟩⟩
      ·
       rw [if_neg c17] at H
       have c17b0 : decide ((rd l1 x21_1) ≤ ((rd_T98 l0_1 x21_1).f2)) = false := decide_eq_false c17
       clear c17
       simp only [Option.some.injEq, Prod.mk.injEq] at H
       obtain ⟨rfl, rfl⟩ := H
       have p116 : 0 ≤ (x21_1 : Int) := oda
       have q116 : x21_1 < (l0_1.length : Int) := oda
       obtain ⟨ad116, e116, hx116_0, hx116_1, hx116_2, hx116_3⟩ := at_T98 HR0_1.out x21_1 p116 q116
       cases e116
       (try replace hx116_0 := (HB.out.cell (World.block_lt_of_cell? w _ hx116_0)).trans hx116_0)
       (try replace hx116_1 := (HB.out.cell (World.block_lt_of_cell? w _ hx116_1)).trans hx116_1)
       (try replace hx116_2 := (HB.out.cell (World.block_lt_of_cell? w _ hx116_2)).trans hx116_2)
       (try replace hx116_3 := (HB.out.cell (World.block_lt_of_cell? w _ hx116_3)).trans hx116_3)
       replace p116 := eq_true p116
       replace q116 := eq_true q116
       try go_wp2_with (first | ((with_reducible refine gate_dst (N := 7) rfl ?_); refine box_event ?hg (N := 7) ?hd (cs := #[.int .i64 0, .int .i64 0, .int .i64 0, .int .i64 0]) (t := 98) ?hr ?_; (case hd => rfl); (case hg => rfl); (case hr => first | (go_simp; done) | (go_simp; rfl)); intro gb117 hg w36 hbox hb; have n0_ := ak (Kd.R_below (rx HO_5.out) hb); have n1_ := ak (blk_below (bx BK112.out) hb); have n2_ := ak (below_step lb hb); have n3_ := ak (hbox); have n4_ := ak ((by rw [hg]; exact (below_size lb) : w.heap.size ≤ gb117)); have n5_ := ak ((by rw [hg]; exact (below_size lb) : w.heap.size ≤ gb117)); have n6_ := ak ((by rw [hg]; exact Nat.ne_of_lt (blk_lt (g := gb112) (o := .cells #[.int .i64 a0_0, .slice (some ad116) l0_1.length c0_1] 24 (0, 0)) (bx BK112.out)) : gb112 ≠ gb117)); have n7_ := ak ((by rw [hg]; exact Nat.ne_of_gt (blk_lt (g := gb112) (o := .cells #[.int .i64 a0_0, .slice (some ad116) l0_1.length c0_1] 24 (0, 0)) (bx BK112.out)) : gb117 ≠ gb112)); clear HO_5; clear BK112; clear HB; have HO_5 := n0_; have BK112 := n1_; have HB := n2_; have BK117 := n3_; have GW117 := n4_; have GE117 := n5_; have NB112_117 := n6_; have NB117_112 := n7_; clear n0_ n1_ n2_ n3_ n4_ n5_ n6_ n7_; clear hb hbox hg; have hnb37 := NB117_112.out; have hnc37 := NB112_117.out; have hcz38_0 : w36.cell? ⟨gb117, 0, none⟩ = some (.int .i64 0) := (blk_cell BK117.out 0).trans rfl; have hcz38_1 : w36.cell? ⟨gb117, 1, none⟩ = some (.int .i64 0) := (blk_cell BK117.out 1).trans rfl; have hcz38_2 : w36.cell? ⟨gb117, 2, none⟩ = some (.int .i64 0) := (blk_cell BK117.out 2).trans rfl; have hcz38_3 : w36.cell? ⟨gb117, 3, none⟩ = some (.int .i64 0) := (blk_cell BK117.out 3).trans rfl; have hfz38_0 := blk_frozen BK117.out 0; have hfz38_1 := blk_frozen BK117.out 1; have hfz38_2 := blk_frozen BK117.out 2; have hfz38_3 := blk_frozen BK117.out 3))
       have n0_ : Aside0 (Kd.R (Kd.int .i64) 2 ((((w36.setCell ⟨gb117, 0, none⟩ (.int .i64 ((rd_T98 l0_1 x21_1).f0))).setCell ⟨gb117, 1, none⟩ (.int .i64 ((rd_T98 l0_1 x21_1).f1))).setCell ⟨gb117, 2, none⟩ (.int .i64 ((rd_T98 l0_1 x21_1).f2))).setCell ⟨gb117, 3, none⟩ (.int .i64 ((rd_T98 l0_1 x21_1).f3))) w.heap.size (fun _ => True) v114 x5_1) := ⟨by exact rx (Kd.R_mono (Kd.R_far (p := ⟨gb117, 3, none⟩) (Kd.R_far (p := ⟨gb117, 2, none⟩) (Kd.R_far (p := ⟨gb117, 1, none⟩) (Kd.R_far (p := ⟨gb117, 0, none⟩) (Kd.R_types HO_5.out BK117.out (by decide)) (fun _ hk => hk.2) (.int .i64 ((rd_T98 l0_1 x21_1).f0))) (fun _ hk => hk.2) (.int .i64 ((rd_T98 l0_1 x21_1).f1))) (fun _ hk => hk.2) (.int .i64 ((rd_T98 l0_1 x21_1).f2))) (fun _ hk => hk.2) (.int .i64 ((rd_T98 l0_1 x21_1).f3))) (fun _ hk => trivial))⟩
       have n1_ : Aside0 (((((w36.setCell ⟨gb117, 0, none⟩ (.int .i64 ((rd_T98 l0_1 x21_1).f0))).setCell ⟨gb117, 1, none⟩ (.int .i64 ((rd_T98 l0_1 x21_1).f1))).setCell ⟨gb117, 2, none⟩ (.int .i64 ((rd_T98 l0_1 x21_1).f2))).setCell ⟨gb117, 3, none⟩ (.int .i64 ((rd_T98 l0_1 x21_1).f3))).heap[gb112]? = some (.cells #[.int .i64 a0_0, .slice (some ad116) l0_1.length c0_1] 24 (0, 0))) := ⟨by (with_reducible repeat (first | refine blk_drewN ?_ _ | refine blk_drew ?_ | refine blk_alloc ?_ _)); refine blk_far ?_ NB112_117.out _; (with_reducible repeat (first | refine blk_drewN ?_ _ | refine blk_drew ?_ | refine blk_alloc ?_ _)); refine blk_far ?_ NB112_117.out _; (with_reducible repeat (first | refine blk_drewN ?_ _ | refine blk_drew ?_ | refine blk_alloc ?_ _)); refine blk_far ?_ NB112_117.out _; (with_reducible repeat (first | refine blk_drewN ?_ _ | refine blk_drew ?_ | refine blk_alloc ?_ _)); refine blk_far ?_ NB112_117.out _; exact bx BK112.out⟩
       have n2_ : Aside0 (((((w36.setCell ⟨gb117, 0, none⟩ (.int .i64 ((rd_T98 l0_1 x21_1).f0))).setCell ⟨gb117, 1, none⟩ (.int .i64 ((rd_T98 l0_1 x21_1).f1))).setCell ⟨gb117, 2, none⟩ (.int .i64 ((rd_T98 l0_1 x21_1).f2))).setCell ⟨gb117, 3, none⟩ (.int .i64 ((rd_T98 l0_1 x21_1).f3))).heap[gb117]? = some (.cells #[.int .i64 ((rd_T98 l0_1 x21_1).f0), .int .i64 ((rd_T98 l0_1 x21_1).f1), .int .i64 ((rd_T98 l0_1 x21_1).f2), .int .i64 ((rd_T98 l0_1 x21_1).f3)] 98 (0, 0))) := ⟨by (with_reducible repeat (first | refine blk_drewN ?_ _ | refine blk_drew ?_ | refine blk_alloc ?_ _)); refine blk_put (cs := #[.int .i64 ((rd_T98 l0_1 x21_1).f0), .int .i64 ((rd_T98 l0_1 x21_1).f1), .int .i64 ((rd_T98 l0_1 x21_1).f2), .int .i64 0]) ?_ 3 _ rfl; (with_reducible repeat (first | refine blk_drewN ?_ _ | refine blk_drew ?_ | refine blk_alloc ?_ _)); refine blk_put (cs := #[.int .i64 ((rd_T98 l0_1 x21_1).f0), .int .i64 ((rd_T98 l0_1 x21_1).f1), .int .i64 0, .int .i64 0]) ?_ 2 _ rfl; (with_reducible repeat (first | refine blk_drewN ?_ _ | refine blk_drew ?_ | refine blk_alloc ?_ _)); refine blk_put (cs := #[.int .i64 ((rd_T98 l0_1 x21_1).f0), .int .i64 0, .int .i64 0, .int .i64 0]) ?_ 1 _ rfl; (with_reducible repeat (first | refine blk_drewN ?_ _ | refine blk_drew ?_ | refine blk_alloc ?_ _)); refine blk_put (cs := #[.int .i64 0, .int .i64 0, .int .i64 0, .int .i64 0]) ?_ 0 _ rfl; exact bx BK117.out⟩
       have n3_ : Aside0 (Below w.heap.size w ((((w36.setCell ⟨gb117, 0, none⟩ (.int .i64 ((rd_T98 l0_1 x21_1).f0))).setCell ⟨gb117, 1, none⟩ (.int .i64 ((rd_T98 l0_1 x21_1).f1))).setCell ⟨gb117, 2, none⟩ (.int .i64 ((rd_T98 l0_1 x21_1).f2))).setCell ⟨gb117, 3, none⟩ (.int .i64 ((rd_T98 l0_1 x21_1).f3)))) := ⟨lb⟩
       (try clear HO_5)
       (try clear BK112)
       (try clear BK117)
       (try clear HB)
       generalize ((((w36.setCell ⟨gb117, 0, none⟩ (.int .i64 ((rd_T98 l0_1 x21_1).f0))).setCell ⟨gb117, 1, none⟩ (.int .i64 ((rd_T98 l0_1 x21_1).f1))).setCell ⟨gb117, 2, none⟩ (.int .i64 ((rd_T98 l0_1 x21_1).f2))).setCell ⟨gb117, 3, none⟩ (.int .i64 ((rd_T98 l0_1 x21_1).f3))) = w39 at n0_ n1_ n2_ n3_ ⊢
       have HO_5 := n0_
       have BK112 := n1_
       have BK117 := n2_
       have HB := n3_
       clear n0_ n1_ n2_ n3_
       have n0_ := ak (Kd.R_drew HO_5.out)
       have n1_ := ak (blk_drew BK112.out)
       have n2_ := ak (blk_drew BK117.out)
       have n3_ := ak (below_drew1 HB.out)
       clear HO_5
       clear BK112
       clear BK117
       clear HB
       have HO_5 := n0_
       have BK112 := n1_
       have BK117 := n2_
       have HB := n3_
       clear n0_ n1_ n2_ n3_
       have p118 : 0 ≤ (x21_1 : Int) := oda
       have q118 : x21_1 < (l1.length : Int) := oda
       obtain ⟨ad118, e118, hx118_0⟩ := Kd.at_int HR1.out x21_1 p118 q118
       have hw118_0 := hx118_0
       cases e118
       (try replace hx118_0 := (HB.out.cell (World.block_lt_of_cell? w _ hx118_0)).trans hx118_0)
       replace p118 := eq_true p118
       replace q118 := eq_true q118
       have p119 : 0 ≤ (x21_1 : Int) := oda
       have q119 : x21_1 < (l1.length : Int) := oda
       obtain ⟨ad119, e119, hx119_0⟩ := Kd.at_int HR1.out x21_1 p119 q119
       have hw119_0 := hx119_0
       obtain rfl : ad118 = ad119 := (by injection e119)
       (try replace hx119_0 := (HB.out.cell (World.block_lt_of_cell? w _ hx119_0)).trans hx119_0)
       replace p119 := eq_true p119
       replace q119 := eq_true q119
       refine start_ (n := 15) (S := fun w' => w'.cell? ⟨gb117, 0, none⟩ = some (.int .i64 ((rd_T98 l0_1 x21_1).f0)) ∧ w'.cell? ⟨gb117, 1, none⟩ = some (.int .i64 ((rd_T98 l0_1 x21_1).f1)) ∧ w'.cell? ⟨gb117, 2, none⟩ = some (.int .i64 ((rd_T98 l0_1 x21_1).f2)) ∧ w'.cell? ⟨gb117, 3, none⟩ = some (.int .i64 ((rd_T98 l0_1 x21_1).f3)) ∧ w'.cell? (ad118.add (x21_1).toNat) = some (.int .i64 (rd l1 x21_1)) ∧ w'.cell? (ad118.add (x21_1).toNat) = some (.int .i64 (rd l1 x21_1))) (ds := []) #[false, false, false, false, false, false, false, false, false, false, false, false, false, false, false] (by kernel_rfl) rfl rfl ⟨(blk_cell BK117.out 0).trans rfl, (blk_cell BK117.out 1).trans rfl, (blk_cell BK117.out 2).trans rfl, (blk_cell BK117.out 3).trans rfl, ((HB.out.cell (World.block_lt_of_cell? w _ hw118_0)).trans hw118_0), ((HB.out.cell (World.block_lt_of_cell? w _ hw119_0)).trans hw119_0)⟩ (fun hHeld => ?_); refine with_tabW proof_carried.tab6 proof_carried.bits6 (fun HT_ HW_ => ?_)
       generalize w39.drew = w40 at HO_5 BK112 BK117 HB hx118_0 hx119_0 hHeld ⊢
       refine pure_ (i := 0) (N := some 26) (v := ?_) (a' := ?_) #[true, false, false, false, false, false, false, false, false, false, false, false, false, false, false] rfl rfl (any_of HT_.out (by kernel_rfl)) (fun _ _ _ h => h) (Or.inl ⟨by rfl, ?_⟩) ?_ ?_; rotate_left; intro w'; go_simp; with_reducible rfl; rotate_left; simp only [Act.put, List.setIfInBounds_toArray, List.set_cons_zero, List.set_cons_succ, i64_w, i32_w]; rfl
       refine pure_ (i := 1) (N := some 27) (v := ?_) (a' := ?_) #[true, true, false, false, false, false, false, false, false, false, false, false, false, false, false] rfl rfl (any_of HT_.out (by kernel_rfl)) (fun _ _ _ h => h) (Or.inl ⟨by rfl, ?_⟩) ?_ ?_; rotate_left; intro w'; go_simp; with_reducible rfl; rotate_left; simp only [Act.put, List.setIfInBounds_toArray, List.set_cons_zero, List.set_cons_succ, i64_w, i32_w]; rfl
       refine pure_ (i := 2) (N := some 28) (v := ?_) (a' := ?_) #[true, true, true, false, false, false, false, false, false, false, false, false, false, false, false] rfl rfl (any_of HT_.out (by kernel_rfl)) (fun _ _ _ h => h) (Or.inl ⟨by rfl, ?_⟩) ?_ ?_; rotate_left; intro w'; go_simp; with_reducible rfl; rotate_left; simp only [Act.put, List.setIfInBounds_toArray, List.set_cons_zero, List.set_cons_succ, i64_w, i32_w]; rfl
       refine take_ (i := 3) (N := some 29) (v := ?_) (a' := ?_) #[true, true, true, true, false, false, false, false, false, false, false, false, false, false, false] rfl rfl (take_ofW HT_.out HW_.out (by kernel_rfl)) (fun _ _ _ h => h) (Or.inl ⟨by rfl, ?_⟩) hHeld ?_ ?_; rotate_left; rintro w' ⟨s0, s1, s2, s3, s4, s5⟩; go_simp; with_reducible rfl; rotate_left; simp only [Act.put, List.setIfInBounds_toArray, List.set_cons_zero, List.set_cons_succ, i64_w, i32_w]; rfl
       refine pure_ (i := 4) (N := some 30) (v := ?_) (a' := ?_) #[true, true, true, true, true, false, false, false, false, false, false, false, false, false, false] rfl rfl (any_of HT_.out (by kernel_rfl)) (fun _ _ _ h => h) (Or.inl ⟨by rfl, ?_⟩) ?_ ?_; rotate_left; intro w'; go_simp; with_reducible rfl; rotate_left; simp only [Act.put, List.setIfInBounds_toArray, List.set_cons_zero, List.set_cons_succ, i64_w, i32_w]; rfl
       refine pure_ (i := 5) (N := some 31) (v := ?_) (a' := ?_) #[true, true, true, true, true, true, false, false, false, false, false, false, false, false, false] rfl rfl (any_of HT_.out (by kernel_rfl)) (fun _ _ _ h => h) (Or.inl ⟨by rfl, ?_⟩) ?_ ?_; rotate_left; intro w'; go_simp; with_reducible rfl; rotate_left; simp only [Act.put, List.setIfInBounds_toArray, List.set_cons_zero, List.set_cons_succ, i64_w, i32_w]; rfl
       refine pure_ (i := 6) (N := some 32) (v := ?_) (a' := ?_) #[true, true, true, true, true, true, true, false, false, false, false, false, false, false, false] rfl rfl (any_of HT_.out (by kernel_rfl)) (fun _ _ _ h => h) (Or.inl ⟨by rfl, ?_⟩) ?_ ?_; rotate_left; intro w'; go_simp; with_reducible rfl; rotate_left; simp only [Act.put, List.setIfInBounds_toArray, List.set_cons_zero, List.set_cons_succ, i64_w, i32_w]; rfl
       refine pure_ (i := 7) (N := some 33) (v := ?_) (a' := ?_) #[true, true, true, true, true, true, true, true, false, false, false, false, false, false, false] rfl rfl (any_of HT_.out (by kernel_rfl)) (fun _ _ _ h => h) (Or.inl ⟨by rfl, ?_⟩) ?_ ?_; rotate_left; intro w'; go_simp; with_reducible rfl; rotate_left; simp only [Act.put, List.setIfInBounds_toArray, List.set_cons_zero, List.set_cons_succ, i64_w, i32_w]; rfl
       refine pure_ (i := 8) (N := some 34) (v := ?_) (a' := ?_) #[true, true, true, true, true, true, true, true, true, false, false, false, false, false, false] rfl rfl (any_of HT_.out (by kernel_rfl)) (fun _ _ _ h => h) (Or.inl ⟨by rfl, ?_⟩) ?_ ?_; rotate_left; intro w'; go_simp; with_reducible rfl; rotate_left; simp only [Act.put, List.setIfInBounds_toArray, List.set_cons_zero, List.set_cons_succ, i64_w, i32_w]; rfl
       refine pure_ (i := 10) (N := some 36) (v := ?_) (a' := ?_) #[true, true, true, true, true, true, true, true, true, false, true, false, false, false, false] rfl rfl (any_of HT_.out (by kernel_rfl)) (fun _ _ _ h => h) (Or.inl ⟨by rfl, ?_⟩) ?_ ?_; rotate_left; intro w'; go_simp; with_reducible rfl; rotate_left; simp only [Act.put, List.setIfInBounds_toArray, List.set_cons_zero, List.set_cons_succ, i64_w, i32_w]; rfl
       refine take_ (i := 9) (N := some 35) (v := ?_) (a' := ?_) #[true, true, true, true, true, true, true, true, true, true, true, false, false, false, false] rfl rfl (take_ofW HT_.out HW_.out (by kernel_rfl)) (fun _ _ _ h => h) (Or.inl ⟨by rfl, ?_⟩) hHeld ?_ ?_; rotate_left; rintro w' ⟨s0, s1, s2, s3, s4, s5⟩; go_simp; with_reducible rfl; rotate_left; simp only [Act.put, List.setIfInBounds_toArray, List.set_cons_zero, List.set_cons_succ, i64_w, i32_w]; rfl
       refine take_ (i := 11) (N := some 37) (v := ?_) (a' := ?_) #[true, true, true, true, true, true, true, true, true, true, true, true, false, false, false] rfl rfl (take_ofW HT_.out HW_.out (by kernel_rfl)) (fun _ _ _ h => h) (Or.inl ⟨by rfl, ?_⟩) hHeld ?_ ?_; rotate_left; rintro w' ⟨s0, s1, s2, s3, s4, s5⟩; go_simp; with_reducible rfl; rotate_left; simp only [Act.put, List.setIfInBounds_toArray, List.set_cons_zero, List.set_cons_succ, i64_w, i32_w]; rfl
       refine pure_ (i := 12) (N := some 38) (v := ?_) (a' := ?_) #[true, true, true, true, true, true, true, true, true, true, true, true, true, false, false] rfl rfl (any_of HT_.out (by kernel_rfl)) (fun _ _ _ h => h) (Or.inl ⟨by rfl, ?_⟩) ?_ ?_; rotate_left; intro w'; go_simp; with_reducible rfl; rotate_left; simp only [Act.put, List.setIfInBounds_toArray, List.set_cons_zero, List.set_cons_succ, i64_w, i32_w]; rfl
       refine pure_ (i := 13) (N := some 39) (v := ?_) (a' := ?_) #[true, true, true, true, true, true, true, true, true, true, true, true, true, true, false] rfl rfl (any_of HT_.out (by kernel_rfl)) (fun _ _ _ h => h) (Or.inl ⟨by rfl, ?_⟩) ?_ ?_; rotate_left; intro w'; go_simp; with_reducible rfl; rotate_left; simp only [Act.put, List.setIfInBounds_toArray, List.set_cons_zero, List.set_cons_succ, i64_w, i32_w]; rfl
       refine one_ (i := 14) (N := some 40) #[true, true, true, true, true, true, true, true, true, true, true, true, true, true, true] rfl rfl (one_of HT_.out (by kernel_rfl)) (by decide) (fun K hK => ?_)
       refine panics_ Try.func51 (by kernel_rfl) rfl #[.bool false, .int .i64 221] (by rfl) rfl rfl (by (try simp only [List.map_toArray, List.map_cons, List.map_nil]); first | done | rfl | (simp only [List.length_drop, List.length_take]; rfl)) ?_
       refine (proof_need.bad 221 _).mono ?_
       rintro e w' ⟨rfl, rfl⟩
       refine ⟨_, rfl, ?_⟩
       (repeat (first | refine panic_then ?_ | refine panic_block ?_))
       exact panic_body rfl (Gave.no (by first | decide | assumption | (simp_all; done)) ⟨rfl, lb⟩)
       try go_wp2
     ·
      rw [if_neg c16] at H
      have c16b0 : decide (0 ≤ (rd l1 x21_1)) = false := decide_eq_false c16
      clear c16
      simp only [Option.some.injEq, Prod.mk.injEq] at H
      obtain ⟨rfl, rfl⟩ := H
      have p116 : 0 ≤ (x21_1 : Int) := oda
      have q116 : x21_1 < (l0_1.length : Int) := oda
      obtain ⟨ad116, e116, hx116_0, hx116_1, hx116_2, hx116_3⟩ := at_T98 HR0_1.out x21_1 p116 q116
      cases e116
      (try replace hx116_0 := (HB.out.cell (World.block_lt_of_cell? w _ hx116_0)).trans hx116_0)
      (try replace hx116_1 := (HB.out.cell (World.block_lt_of_cell? w _ hx116_1)).trans hx116_1)
      (try replace hx116_2 := (HB.out.cell (World.block_lt_of_cell? w _ hx116_2)).trans hx116_2)
      (try replace hx116_3 := (HB.out.cell (World.block_lt_of_cell? w _ hx116_3)).trans hx116_3)
      replace p116 := eq_true p116
      replace q116 := eq_true q116
      try go_wp2_with (first | ((with_reducible refine gate_dst (N := 7) rfl ?_); refine box_event ?hg (N := 7) ?hd (cs := #[.int .i64 0, .int .i64 0, .int .i64 0, .int .i64 0]) (t := 98) ?hr ?_; (case hd => rfl); (case hg => rfl); (case hr => first | (go_simp; done) | (go_simp; rfl)); intro gb117 hg w41 hbox hb; have n0_ := ak (Kd.R_below (rx HO_5.out) hb); have n1_ := ak (blk_below (bx BK112.out) hb); have n2_ := ak (below_step lb hb); have n3_ := ak (hbox); have n4_ := ak ((by rw [hg]; exact (below_size lb) : w.heap.size ≤ gb117)); have n5_ := ak ((by rw [hg]; exact (below_size lb) : w.heap.size ≤ gb117)); have n6_ := ak ((by rw [hg]; exact Nat.ne_of_lt (blk_lt (g := gb112) (o := .cells #[.int .i64 a0_0, .slice (some ad116) l0_1.length c0_1] 24 (0, 0)) (bx BK112.out)) : gb112 ≠ gb117)); have n7_ := ak ((by rw [hg]; exact Nat.ne_of_gt (blk_lt (g := gb112) (o := .cells #[.int .i64 a0_0, .slice (some ad116) l0_1.length c0_1] 24 (0, 0)) (bx BK112.out)) : gb117 ≠ gb112)); clear HO_5; clear BK112; clear HB; have HO_5 := n0_; have BK112 := n1_; have HB := n2_; have BK117 := n3_; have GW117 := n4_; have GE117 := n5_; have NB112_117 := n6_; have NB117_112 := n7_; clear n0_ n1_ n2_ n3_ n4_ n5_ n6_ n7_; clear hb hbox hg; have hnb42 := NB117_112.out; have hnc42 := NB112_117.out; have hcz43_0 : w41.cell? ⟨gb117, 0, none⟩ = some (.int .i64 0) := (blk_cell BK117.out 0).trans rfl; have hcz43_1 : w41.cell? ⟨gb117, 1, none⟩ = some (.int .i64 0) := (blk_cell BK117.out 1).trans rfl; have hcz43_2 : w41.cell? ⟨gb117, 2, none⟩ = some (.int .i64 0) := (blk_cell BK117.out 2).trans rfl; have hcz43_3 : w41.cell? ⟨gb117, 3, none⟩ = some (.int .i64 0) := (blk_cell BK117.out 3).trans rfl; have hfz43_0 := blk_frozen BK117.out 0; have hfz43_1 := blk_frozen BK117.out 1; have hfz43_2 := blk_frozen BK117.out 2; have hfz43_3 := blk_frozen BK117.out 3))
      have n0_ : Aside0 (Kd.R (Kd.int .i64) 2 ((((w41.setCell ⟨gb117, 0, none⟩ (.int .i64 ((rd_T98 l0_1 x21_1).f0))).setCell ⟨gb117, 1, none⟩ (.int .i64 ((rd_T98 l0_1 x21_1).f1))).setCell ⟨gb117, 2, none⟩ (.int .i64 ((rd_T98 l0_1 x21_1).f2))).setCell ⟨gb117, 3, none⟩ (.int .i64 ((rd_T98 l0_1 x21_1).f3))) w.heap.size (fun _ => True) v114 x5_1) := ⟨by exact rx (Kd.R_mono (Kd.R_far (p := ⟨gb117, 3, none⟩) (Kd.R_far (p := ⟨gb117, 2, none⟩) (Kd.R_far (p := ⟨gb117, 1, none⟩) (Kd.R_far (p := ⟨gb117, 0, none⟩) (Kd.R_types HO_5.out BK117.out (by decide)) (fun _ hk => hk.2) (.int .i64 ((rd_T98 l0_1 x21_1).f0))) (fun _ hk => hk.2) (.int .i64 ((rd_T98 l0_1 x21_1).f1))) (fun _ hk => hk.2) (.int .i64 ((rd_T98 l0_1 x21_1).f2))) (fun _ hk => hk.2) (.int .i64 ((rd_T98 l0_1 x21_1).f3))) (fun _ hk => trivial))⟩
      have n1_ : Aside0 (((((w41.setCell ⟨gb117, 0, none⟩ (.int .i64 ((rd_T98 l0_1 x21_1).f0))).setCell ⟨gb117, 1, none⟩ (.int .i64 ((rd_T98 l0_1 x21_1).f1))).setCell ⟨gb117, 2, none⟩ (.int .i64 ((rd_T98 l0_1 x21_1).f2))).setCell ⟨gb117, 3, none⟩ (.int .i64 ((rd_T98 l0_1 x21_1).f3))).heap[gb112]? = some (.cells #[.int .i64 a0_0, .slice (some ad116) l0_1.length c0_1] 24 (0, 0))) := ⟨by (with_reducible repeat (first | refine blk_drewN ?_ _ | refine blk_drew ?_ | refine blk_alloc ?_ _)); refine blk_far ?_ NB112_117.out _; (with_reducible repeat (first | refine blk_drewN ?_ _ | refine blk_drew ?_ | refine blk_alloc ?_ _)); refine blk_far ?_ NB112_117.out _; (with_reducible repeat (first | refine blk_drewN ?_ _ | refine blk_drew ?_ | refine blk_alloc ?_ _)); refine blk_far ?_ NB112_117.out _; (with_reducible repeat (first | refine blk_drewN ?_ _ | refine blk_drew ?_ | refine blk_alloc ?_ _)); refine blk_far ?_ NB112_117.out _; exact bx BK112.out⟩
      have n2_ : Aside0 (((((w41.setCell ⟨gb117, 0, none⟩ (.int .i64 ((rd_T98 l0_1 x21_1).f0))).setCell ⟨gb117, 1, none⟩ (.int .i64 ((rd_T98 l0_1 x21_1).f1))).setCell ⟨gb117, 2, none⟩ (.int .i64 ((rd_T98 l0_1 x21_1).f2))).setCell ⟨gb117, 3, none⟩ (.int .i64 ((rd_T98 l0_1 x21_1).f3))).heap[gb117]? = some (.cells #[.int .i64 ((rd_T98 l0_1 x21_1).f0), .int .i64 ((rd_T98 l0_1 x21_1).f1), .int .i64 ((rd_T98 l0_1 x21_1).f2), .int .i64 ((rd_T98 l0_1 x21_1).f3)] 98 (0, 0))) := ⟨by (with_reducible repeat (first | refine blk_drewN ?_ _ | refine blk_drew ?_ | refine blk_alloc ?_ _)); refine blk_put (cs := #[.int .i64 ((rd_T98 l0_1 x21_1).f0), .int .i64 ((rd_T98 l0_1 x21_1).f1), .int .i64 ((rd_T98 l0_1 x21_1).f2), .int .i64 0]) ?_ 3 _ rfl; (with_reducible repeat (first | refine blk_drewN ?_ _ | refine blk_drew ?_ | refine blk_alloc ?_ _)); refine blk_put (cs := #[.int .i64 ((rd_T98 l0_1 x21_1).f0), .int .i64 ((rd_T98 l0_1 x21_1).f1), .int .i64 0, .int .i64 0]) ?_ 2 _ rfl; (with_reducible repeat (first | refine blk_drewN ?_ _ | refine blk_drew ?_ | refine blk_alloc ?_ _)); refine blk_put (cs := #[.int .i64 ((rd_T98 l0_1 x21_1).f0), .int .i64 0, .int .i64 0, .int .i64 0]) ?_ 1 _ rfl; (with_reducible repeat (first | refine blk_drewN ?_ _ | refine blk_drew ?_ | refine blk_alloc ?_ _)); refine blk_put (cs := #[.int .i64 0, .int .i64 0, .int .i64 0, .int .i64 0]) ?_ 0 _ rfl; exact bx BK117.out⟩
      have n3_ : Aside0 (Below w.heap.size w ((((w41.setCell ⟨gb117, 0, none⟩ (.int .i64 ((rd_T98 l0_1 x21_1).f0))).setCell ⟨gb117, 1, none⟩ (.int .i64 ((rd_T98 l0_1 x21_1).f1))).setCell ⟨gb117, 2, none⟩ (.int .i64 ((rd_T98 l0_1 x21_1).f2))).setCell ⟨gb117, 3, none⟩ (.int .i64 ((rd_T98 l0_1 x21_1).f3)))) := ⟨lb⟩
      (try clear HO_5)
      (try clear BK112)
      (try clear BK117)
      (try clear HB)
      generalize ((((w41.setCell ⟨gb117, 0, none⟩ (.int .i64 ((rd_T98 l0_1 x21_1).f0))).setCell ⟨gb117, 1, none⟩ (.int .i64 ((rd_T98 l0_1 x21_1).f1))).setCell ⟨gb117, 2, none⟩ (.int .i64 ((rd_T98 l0_1 x21_1).f2))).setCell ⟨gb117, 3, none⟩ (.int .i64 ((rd_T98 l0_1 x21_1).f3))) = w44 at n0_ n1_ n2_ n3_ ⊢
      have HO_5 := n0_
      have BK112 := n1_
      have BK117 := n2_
      have HB := n3_
      clear n0_ n1_ n2_ n3_
      have n0_ := ak (Kd.R_drew HO_5.out)
      have n1_ := ak (blk_drew BK112.out)
      have n2_ := ak (blk_drew BK117.out)
      have n3_ := ak (below_drew1 HB.out)
      clear HO_5
      clear BK112
      clear BK117
      clear HB
      have HO_5 := n0_
      have BK112 := n1_
      have BK117 := n2_
      have HB := n3_
      clear n0_ n1_ n2_ n3_
      have p118 : 0 ≤ (x21_1 : Int) := oda
      have q118 : x21_1 < (l1.length : Int) := oda
      obtain ⟨ad118, e118, hx118_0⟩ := Kd.at_int HR1.out x21_1 p118 q118
      have hw118_0 := hx118_0
      cases e118
      (try replace hx118_0 := (HB.out.cell (World.block_lt_of_cell? w _ hx118_0)).trans hx118_0)
      replace p118 := eq_true p118
      replace q118 := eq_true q118
      refine start_ (n := 15) (S := fun w' => w'.cell? (ad118.add (x21_1).toNat) = some (.int .i64 (rd l1 x21_1))) (ds := []) #[false, false, false, false, false, false, false, false, false, false, false, false, false, false, false] (by kernel_rfl) rfl rfl (((HB.out.cell (World.block_lt_of_cell? w _ hw118_0)).trans hw118_0)) (fun hHeld => ?_); refine with_tabW proof_carried.tab6 proof_carried.bits6 (fun HT_ HW_ => ?_)
      generalize w44.drew = w45 at HO_5 BK112 BK117 HB hx118_0 hHeld ⊢
      refine pure_ (i := 0) (N := some 26) (v := ?_) (a' := ?_) #[true, false, false, false, false, false, false, false, false, false, false, false, false, false, false] rfl rfl (any_of HT_.out (by kernel_rfl)) (fun _ _ _ h => h) (Or.inl ⟨by rfl, ?_⟩) ?_ ?_; rotate_left; intro w'; go_simp; with_reducible rfl; rotate_left; simp only [Act.put, List.setIfInBounds_toArray, List.set_cons_zero, List.set_cons_succ, i64_w, i32_w]; rfl
      refine pure_ (i := 1) (N := some 27) (v := ?_) (a' := ?_) #[true, true, false, false, false, false, false, false, false, false, false, false, false, false, false] rfl rfl (any_of HT_.out (by kernel_rfl)) (fun _ _ _ h => h) (Or.inl ⟨by rfl, ?_⟩) ?_ ?_; rotate_left; intro w'; go_simp; with_reducible rfl; rotate_left; simp only [Act.put, List.setIfInBounds_toArray, List.set_cons_zero, List.set_cons_succ, i64_w, i32_w]; rfl
      refine pure_ (i := 2) (N := some 28) (v := ?_) (a' := ?_) #[true, true, true, false, false, false, false, false, false, false, false, false, false, false, false] rfl rfl (any_of HT_.out (by kernel_rfl)) (fun _ _ _ h => h) (Or.inl ⟨by rfl, ?_⟩) ?_ ?_; rotate_left; intro w'; go_simp; with_reducible rfl; rotate_left; simp only [Act.put, List.setIfInBounds_toArray, List.set_cons_zero, List.set_cons_succ, i64_w, i32_w]; rfl
      refine take_ (i := 3) (N := some 29) (v := ?_) (a' := ?_) #[true, true, true, true, false, false, false, false, false, false, false, false, false, false, false] rfl rfl (take_ofW HT_.out HW_.out (by kernel_rfl)) (fun _ _ _ h => h) (Or.inl ⟨by rfl, ?_⟩) hHeld ?_ ?_
      rotate_left
      ·
       intro w' s0
       go_simp
       with_reducible rfl
      rotate_left
      ·
       simp only [Act.put, List.setIfInBounds_toArray, List.set_cons_zero, List.set_cons_succ, i64_w, i32_w]
       rfl
      refine pure_ (i := 4) (N := some 30) (v := ?_) (a' := ?_) #[true, true, true, true, true, false, false, false, false, false, false, false, false, false, false] rfl rfl (any_of HT_.out (by kernel_rfl)) (fun _ _ _ h => h) (Or.inl ⟨by rfl, ?_⟩) ?_ ?_; rotate_left; intro w'; go_simp; with_reducible rfl; rotate_left; simp only [Act.put, List.setIfInBounds_toArray, List.set_cons_zero, List.set_cons_succ, i64_w, i32_w]; rfl
      refine pure_ (i := 5) (N := some 31) (v := ?_) (a' := ?_) #[true, true, true, true, true, true, false, false, false, false, false, false, false, false, false] rfl rfl (any_of HT_.out (by kernel_rfl)) (fun _ _ _ h => h) (Or.inl ⟨by rfl, ?_⟩) ?_ ?_; rotate_left; intro w'; go_simp; with_reducible rfl; rotate_left; simp only [Act.put, List.setIfInBounds_toArray, List.set_cons_zero, List.set_cons_succ, i64_w, i32_w]; rfl
      refine pure_ (i := 6) (N := some 32) (v := undef) (a' := ?_) #[true, true, true, true, true, true, true, false, false, false, false, false, false, false, false] rfl rfl (any_of HT_.out (by kernel_rfl)) (fun _ _ _ h => h) (Or.inr ⟨by rfl, rfl⟩) ?_ ?_
      rotate_left
      ·
       simp only [Act.put, List.setIfInBounds_toArray, List.set_cons_zero, List.set_cons_succ, i64_w, i32_w]
       rfl
      refine pure_ (i := 7) (N := some 33) (v := undef) (a' := ?_) #[true, true, true, true, true, true, true, true, false, false, false, false, false, false, false] rfl rfl (any_of HT_.out (by kernel_rfl)) (fun _ _ _ h => h) (Or.inr ⟨by rfl, rfl⟩) ?_ ?_
      rotate_left
      ·
       simp only [Act.put, List.setIfInBounds_toArray, List.set_cons_zero, List.set_cons_succ, i64_w, i32_w]
       rfl
      refine pure_ (i := 8) (N := some 34) (v := undef) (a' := ?_) #[true, true, true, true, true, true, true, true, true, false, false, false, false, false, false] rfl rfl (any_of HT_.out (by kernel_rfl)) (fun _ _ _ h => h) (Or.inr ⟨by rfl, rfl⟩) ?_ ?_
      rotate_left
      ·
       simp only [Act.put, List.setIfInBounds_toArray, List.set_cons_zero, List.set_cons_succ, i64_w, i32_w]
       rfl
      refine pure_ (i := 9) (N := some 35) (v := undef) (a' := ?_) #[true, true, true, true, true, true, true, true, true, true, false, false, false, false, false] rfl rfl (any_of HT_.out (by kernel_rfl)) (fun _ _ _ h => h) (Or.inr ⟨by rfl, rfl⟩) ?_ ?_
      rotate_left
      ·
       simp only [Act.put, List.setIfInBounds_toArray, List.set_cons_zero, List.set_cons_succ, i64_w, i32_w]
       rfl
      refine pure_ (i := 10) (N := some 36) (v := undef) (a' := ?_) #[true, true, true, true, true, true, true, true, true, true, true, false, false, false, false] rfl rfl (any_of HT_.out (by kernel_rfl)) (fun _ _ _ h => h) (Or.inr ⟨by rfl, rfl⟩) ?_ ?_
      rotate_left
      ·
       simp only [Act.put, List.setIfInBounds_toArray, List.set_cons_zero, List.set_cons_succ, i64_w, i32_w]
       rfl
      refine pure_ (i := 11) (N := some 37) (v := undef) (a' := ?_) #[true, true, true, true, true, true, true, true, true, true, true, true, false, false, false] rfl rfl (any_of HT_.out (by kernel_rfl)) (fun _ _ _ h => h) (Or.inr ⟨by rfl, rfl⟩) ?_ ?_
      rotate_left
      ·
       simp only [Act.put, List.setIfInBounds_toArray, List.set_cons_zero, List.set_cons_succ, i64_w, i32_w]
       rfl
      refine pure_ (i := 12) (N := some 38) (v := undef) (a' := ?_) #[true, true, true, true, true, true, true, true, true, true, true, true, true, false, false] rfl rfl (any_of HT_.out (by kernel_rfl)) (fun _ _ _ h => h) (Or.inr ⟨by rfl, rfl⟩) ?_ ?_
      rotate_left
      ·
       simp only [Act.put, List.setIfInBounds_toArray, List.set_cons_zero, List.set_cons_succ, i64_w, i32_w]
       rfl
      refine pure_ (i := 13) (N := some 39) (v := ?_) (a' := ?_) #[true, true, true, true, true, true, true, true, true, true, true, true, true, true, false] rfl rfl (any_of HT_.out (by kernel_rfl)) (fun _ _ _ h => h) (Or.inl ⟨by rfl, ?_⟩) ?_ ?_; rotate_left; intro w'; go_simp; with_reducible rfl; rotate_left; simp only [Act.put, List.setIfInBounds_toArray, List.set_cons_zero, List.set_cons_succ, i64_w, i32_w]; rfl
      refine one_ (i := 14) (N := some 40) #[true, true, true, true, true, true, true, true, true, true, true, true, true, true, true] rfl rfl (one_of HT_.out (by kernel_rfl)) (by decide) (fun K hK => ?_)
      refine panics_ Try.func51 (by kernel_rfl) rfl #[.bool false, .int .i64 221] (by rfl) rfl rfl (by (try simp only [List.map_toArray, List.map_cons, List.map_nil]); first | done | rfl | (simp only [List.length_drop, List.length_take]; rfl)) ?_
      refine (proof_need.bad 221 _).mono ?_
      rintro e w' ⟨rfl, rfl⟩
      refine ⟨_, rfl, ?_⟩
      (repeat (first | refine panic_then ?_ | refine panic_block ?_))
      exact panic_body rfl (Gave.no (by first | decide | assumption | (simp_all; done)) ⟨rfl, lb⟩)
      try go_wp2
    ·
     rw [if_neg c12] at H
     have c12b0 : decide (x21_1 < (l0_1.length : Int)) = false := decide_eq_false c12
     clear c12
     simp only [Option.some.injEq, Prod.mk.injEq] at H
     obtain ⟨rfl, rfl⟩ := H
     go_wp2
     go_ret
     exact Gave.ok ⟨_, by first | rfl | (simp [errW_none, errW_some] <;> rfl) | (simp [*, errW_none, errW_some] <;> rfl), by exact rx HO_5.out, lb⟩
 ·
  rw [if_neg c3] at H
  have c3b0 : ((l1.length : Int) == (l0_1.length : Int)) = false := beq_eq_false_iff_ne.mpr c3
  have c3b1 : ((l1.length : Int) != (l0_1.length : Int)) = true := bne_iff_ne.mpr c3
  have c3b2 : (l1.length == l0_1.length) = false := by first | simpa using c3 | (simp at c3 ⊢; omega)
  simp only [Option.some.injEq, Prod.mk.injEq] at H
  obtain ⟨rfl, rfl⟩ := H
  go_enter Try.func52, Try.ntmps52
  go_wp2_with (first | ((with_reducible refine gate_dst (N := 2) rfl ?_); refine box_event ?hg (N := 2) ?hd (cs := #[.int .i64 a0_0, .slice A0_1 l0_1.length c0_1]) (t := 24) ?hr ?_; (case hd => rfl); (case hg => rfl); (case hr => first | (go_simp; done) | (go_simp; rfl)); intro gb112 hg w46 hbox hb; have n0_ := ak (below_step lb hb); have n1_ := ak (hbox); have n2_ := ak ((by rw [hg]; exact (below_size lb) : w.heap.size ≤ gb112)); have n3_ := ak ((by rw [hg]; exact (below_size lb) : w.heap.size ≤ gb112)); clear HB; have HB := n0_; have BK112 := n1_; have GW112 := n2_; have GE112 := n3_; clear n0_ n1_ n2_ n3_; clear hb hbox hg; have hcz47_0 : w46.cell? ⟨gb112, 0, none⟩ = some (.int .i64 a0_0) := (blk_cell BK112.out 0).trans rfl; have hcz47_1 : w46.cell? ⟨gb112, 1, none⟩ = some (.slice A0_1 l0_1.length c0_1) := (blk_cell BK112.out 1).trans rfl; have hfz47_0 := blk_frozen BK112.out 0; have hfz47_1 := blk_frozen BK112.out 1) | ((with_reducible refine gate_callee (f := 51) rfl ?_); refine panicsL_ (some 14) rfl rfl Try.func51 (by kernel_rfl) rfl #[.bool false, .int .i64 221] rfl (by (try simp only [List.map_toArray, List.map_cons, List.map_nil]); first | done | rfl | (simp only [List.length_drop, List.length_take]; rfl)) ?_; refine (proof_need.bad 221 _).mono ?_; rintro e w' ⟨rfl, rfl⟩; refine ⟨_, rfl, ?_⟩; (repeat (first | refine panic_then ?_ | refine panic_block ?_)); exact panic_body rfl (Gave.no (by first | decide | assumption | (simp_all; done)) ⟨rfl, lb⟩)))
theorem proof_carried.ok (k : Nat) (a0_0 : Int) (A0_1 : Option Addr) (c0_1 : Nat) (l0_1 : List (S98)) (A1 : Option Addr) (c1 : Nat) (l1 : List Int) (r2 : List Int) (w : World) (hr0_1 : Kd.C k98 w A0_1 l0_1.length l0_1) (hc0_1 : l0_1.length ≤ c0_1) (hr1 : Kd.C (Kd.int .i64) w A1 l1.length l1) (hc1 : l1.length ≤ c1) (h : proof_carried.f k a0_0 l0_1 l1 = some (0, r2)) :
    Calls Try.prog 52 #[.agg #[.int .i64 a0_0, .slice A0_1 l0_1.length c0_1], .slice A1 l1.length c1] w fun e w' => ∃ v1_ : Value, e = .returned (v1_) ∧ Kd.R (Kd.int .i64) 2 w' w.heap.size (fun _ => True) v1_ r2 ∧ Below w.heap.size w w' :=
 (proof_carried.calls k a0_0 A0_1 c0_1 l0_1 A1 c1 l1 0 r2 w hr0_1 hc0_1 hr1 hc1 h).mono fun e w' h_ => h_.good rfl
theorem proof_carried.bad (k : Nat) (a0_0 : Int) (A0_1 : Option Addr) (c0_1 : Nat) (l0_1 : List (S98)) (A1 : Option Addr) (c1 : Nat) (l1 : List Int) (r1 : Int) (r2 : List Int) (w : World) (hr0_1 : Kd.C k98 w A0_1 l0_1.length l0_1) (hc0_1 : l0_1.length ≤ c0_1) (hr1 : Kd.C (Kd.int .i64) w A1 l1.length l1) (hc1 : l1.length ≤ c1) (h : proof_carried.f k a0_0 l0_1 l1 = some (r1, r2)) (hne_ : r1 ≠ 0) :
    Calls Try.prog 52 #[.agg #[.int .i64 a0_0, .slice A0_1 l0_1.length c0_1], .slice A1 l1.length c1] w fun e w' => e = gave r1 ∧ Below w.heap.size w w' :=
 (proof_carried.calls k a0_0 A0_1 c0_1 l0_1 A1 c1 l1 r1 r2 w hr0_1 hc0_1 hr1 hc1 h).mono fun e w' h_ => h_.bad hne_

end Go.Proofs.Ytkdoihcjhccliaa.Q
