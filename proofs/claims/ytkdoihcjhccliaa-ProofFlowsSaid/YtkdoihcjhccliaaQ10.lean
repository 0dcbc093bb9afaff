-- PRINTED by print.py (a twelfth state) out of the translation. Not trusted: Lean checks it.
import Derived.Test.YtkdoihcjhccliaaQ0
import Derived.Test.YtkdoihcjhccliaaQ3
namespace Go.Proofs.Ytkdoihcjhccliaa.Q
open Go.RowKit Go.Proofs.YtkdoihcjhccliaaW.PrintWords Go.Proofs.YtkdoihcjhccliaaW.PrintLast Go.Proofs.YtkdoihcjhccliaaW.PrintMore
attribute [local go_sem] max2_int min2_int max_two min_two max_three min_three max_four min_four   -- for this text's walks alone
set_option linter.unusedVariables false
set_option linter.unusedSimpArgs false

/-! ### proof_reduced: function 62 -/
mutual
def proof_reduced.l0 : Nat → List Int → Int → List Int → Int → Int → Int → List (S98) → Option (Int × List Int)
  | 0, _, _, _, _, _, _, _ => none
  | k + 1, x1, x2, x18, x19, x20, x148000, x148001 => if x20 < x19 then (if 0 ≤ x20 then (if x20 < (x18.length : Int) then (if (rd x18 x20) ≥ (-4398046511104) then (if (rd x18 x20) ≤ 4398046511104 then (proof_reduced.l0 k x1 x2 x18 x19 (wrap64 (x20 + 1)) x148000 x148001) else (some (221, ([] : List Int)))) else (some (221, ([] : List Int)))) else (none)) else (none)) else (if 0 ≤ (x148001.length : Int) then (if ((x148001.length : Int) : Int).toNat ≤ 35184372088832 then (proof_reduced.l1 k x1 x2 (([] : List Int)) x148001 (x148001.length : Int) 0) else (none)) else (none))
def proof_reduced.l1 : Nat → List Int → Int → List Int → List (S98) → Int → Int → Option (Int × List Int)
  | 0, _, _, _, _, _, _ => none
  | k + 1, x1, x2, x9, x37, x38, x39 => if x39 < x38 then (if 0 ≤ x39 then (if x39 < (x37.length : Int) then (if 0 ≤ ((rd_T98 x37 x39).f0) then (if ((rd_T98 x37 x39).f0) < (x1.length : Int) then (if 0 ≤ ((rd_T98 x37 x39).f1) then (if ((rd_T98 x37 x39).f1) < (x1.length : Int) then (if x9.length < 17592186044416 then (proof_reduced.l1 k x1 x2 (x9 ++ [wrap64 ((wrap64 ((wrap64 (x2 * ((rd_T98 x37 x39).f3))) + (rd x1 ((rd_T98 x37 x39).f0)))) - (rd x1 ((rd_T98 x37 x39).f1)))]) x37 x38 (wrap64 (x39 + 1))) else (none)) else (none)) else (none)) else (none)) else (none)) else (none)) else (none)) else (some (0, x9))
end
def proof_reduced.f (k : Nat) (a0_0 : Int) (l0_1 : List (S98)) (l1 : List Int) (a2 : Int) : Option (Int × List Int) := if (l1.length : Int) = a0_0 then (proof_reduced.l0 k l1 a2 l1 (l1.length : Int) 0 a0_0 l0_1) else (some (221, ([] : List Int)))
theorem proof_reduced.mono_l : ∀ k, (∀ y0 y1 y2 y3 y4 y5 y6, LeO (proof_reduced.l0 k y0 y1 y2 y3 y4 y5 y6) (proof_reduced.l0 (k + 1) y0 y1 y2 y3 y4 y5 y6)) ∧ (∀ y0 y1 y2 y3 y4 y5, LeO (proof_reduced.l1 k y0 y1 y2 y3 y4 y5) (proof_reduced.l1 (k + 1) y0 y1 y2 y3 y4 y5))
  | 0 => ⟨fun _ _ _ _ _ _ _ r h => by simp [proof_reduced.l0] at h, fun _ _ _ _ _ _ r h => by simp [proof_reduced.l1] at h⟩
  | k + 1 => by
    obtain ⟨ih0, ih1⟩ := proof_reduced.mono_l k
    refine ⟨?_, ?_⟩
    · intro y0 y1 y2 y3 y4 y5 y6
      unfold proof_reduced.l0
      repeat' first
      | (with_reducible exact ih0 _ _ _ _ _ _ _)
      | (with_reducible exact ih1 _ _ _ _ _ _)
      | (with_reducible exact LeO.refl _)
      | (with_reducible exact LeO.none _)
      | (with_reducible refine LeO.ite ?_ ?_)
      | (with_reducible refine LeO.bind ?_ (fun _ => ?_))
      | exact ih0 _ _ _ _ _ _ _
      | exact ih1 _ _ _ _ _ _
      | exact LeO.none _
      | refine LeO.ite ?_ ?_
      | refine LeO.bind ?_ (fun _ => ?_)
    · intro y0 y1 y2 y3 y4 y5
      unfold proof_reduced.l1
      repeat' first
      | (with_reducible exact ih0 _ _ _ _ _ _ _)
      | (with_reducible exact ih1 _ _ _ _ _ _)
      | (with_reducible exact LeO.refl _)
      | (with_reducible exact LeO.none _)
      | (with_reducible refine LeO.ite ?_ ?_)
      | (with_reducible refine LeO.bind ?_ (fun _ => ?_))
      | exact ih0 _ _ _ _ _ _ _
      | exact ih1 _ _ _ _ _ _
      | exact LeO.none _
      | refine LeO.ite ?_ ?_
      | refine LeO.bind ?_ (fun _ => ?_)
theorem proof_reduced.mono : ∀ a0 a1 a2 a3 k, LeO (proof_reduced.f k a0 a1 a2 a3) (proof_reduced.f (k + 1) a0 a1 a2 a3) := by
  intro a0 a1 a2 a3 k
  obtain ⟨ih0, ih1⟩ := proof_reduced.mono_l k
  unfold proof_reduced.f
  repeat' first
      | (with_reducible exact ih0 _ _ _ _ _ _ _)
      | (with_reducible exact ih1 _ _ _ _ _ _)
      | (with_reducible exact LeO.refl _)
      | (with_reducible exact LeO.none _)
      | (with_reducible refine LeO.ite ?_ ?_)
      | (with_reducible refine LeO.bind ?_ (fun _ => ?_))
      | exact ih0 _ _ _ _ _ _ _
      | exact ih1 _ _ _ _ _ _
      | exact LeO.none _
      | refine LeO.ite ?_ ?_
      | refine LeO.bind ?_ (fun _ => ?_)
def proof_reduced.T11 : Bool × List (List Nat × List Nat) := (true, [([], []), ([], []), ([], []), ([2], [2]), ([1, 3], [1, 3]), ([], []), ([], []), ([6], [6]), ([5, 7], [5, 7]), ([8], [8]), ([4, 9], [4, 9]), ([], []), ([], []), ([12], [12]), ([11, 13], [11, 13]), ([14], [14]), ([10, 15], [10, 15]), ([16], [16]), ([0, 17], [0, 17]), ([18, 18, 0, 1, 2, 3, 4, 5, 6, 7, 8, 9, 10, 11, 12, 13, 14, 15, 16, 17, 18], [0, 18])])
def proof_reduced.B11 : List Nat := [0, 0, 0, 4, 14, 0, 0, 64, 224, 480, 1022, 0, 0, 4096, 14336, 30720, 65534, 131070, 262143, 524287]
theorem proof_reduced.tab11 : rtab .any (opsOf Try.f62 11) = proof_reduced.T11 := by kernel_rfl
theorem proof_reduced.bits11 : waitsOk proof_reduced.T11.2 proof_reduced.B11 = true := by kernel_rfl
set_option maxHeartbeats 8000000 in
set_option maxRecDepth 100000 in
theorem proof_reduced.calls (k : Nat) (a0_0 : Int) (A0_1 : Option Addr) (c0_1 : Nat) (l0_1 : List (S98)) (A1 : Option Addr) (c1 : Nat) (l1 : List Int) (a2 : Int) (r1 : Int) (r2 : List Int) (w : World) (hr0_1 : Kd.C k98 w A0_1 l0_1.length l0_1) (hc0_1 : l0_1.length ≤ c0_1) (hr1 : Kd.C (Kd.int .i64) w A1 l1.length l1) (hc1 : l1.length ≤ c1) (h : proof_reduced.f k a0_0 l0_1 l1 a2 = some (r1, r2)) :
    Calls Try.prog 62 #[.agg #[.int .i64 a0_0, .slice A0_1 l0_1.length c0_1], .slice A1 l1.length c1, .int .i64 a2] w fun e w' => Gave r1 (∃ v1_ : Value, e = .returned (v1_) ∧ Kd.R (Kd.int .i64) 2 w' w.heap.size (fun _ => True) v1_ r2 ∧ Below w.heap.size w w') (e = gave r1 ∧ Below w.heap.size w w') := by
 have hu24 := Try.underlying24
 have hu98 := Try.underlying98
 have HR0_1 := ak hr0_1
 have HC0_1 := ak hc0_1
 clear hr0_1 hc0_1
 have HR1 := ak hr1
 have HC1 := ak hc1
 clear hr1 hc1
 have HB := ak (Below.refl w.heap.size w)
 have H : (if (l1.length : Int) = a0_0 then (proof_reduced.l0 k l1 a2 l1 (l1.length : Int) 0 a0_0 l0_1) else (some (221, ([] : List Int)))) = some (r1, r2) := h
 clear h
 by_cases c4 : (l1.length : Int) = a0_0
 ·
  rw [if_pos c4] at H
  have c4b0 : ((l1.length : Int) == a0_0) = true := beq_iff_eq.mpr c4
  have c4b1 : ((l1.length : Int) != a0_0) = false := bne_eq_false_iff_eq.mpr c4
  clear c4
  have A5 := ak (show proof_need.f true 221 = some () from rfl)
  have H' := ak H
  clear H
  go_enter Try.func62, Try.ntmps62
  go_wp2_with (first | ((with_reducible refine gate_dst (N := 3) rfl ?_); refine box_event ?hg (N := 3) ?hd (cs := #[.int .i64 a0_0, .slice A0_1 l0_1.length c0_1]) (t := 24) ?hr ?_; (case hd => rfl); (case hg => rfl); (case hr => first | (go_simp; done) | (go_simp; rfl)); intro gb147 hg w6 hbox hb; have n0_ := ak (below_step lb hb); have n1_ := ak (hbox); have n2_ := ak ((by rw [hg]; exact (below_size lb) : w.heap.size ≤ gb147)); have n3_ := ak ((by rw [hg]; exact (below_size lb) : w.heap.size ≤ gb147)); clear HB; have HB := n0_; have BK147 := n1_; have GW147 := n2_; have GE147 := n3_; clear n0_ n1_ n2_ n3_; clear hb hbox hg; have hcz7_0 : w6.cell? ⟨gb147, 0, none⟩ = some (.int .i64 a0_0) := (blk_cell BK147.out 0).trans rfl; have hcz7_1 : w6.cell? ⟨gb147, 1, none⟩ = some (.slice A0_1 l0_1.length c0_1) := (blk_cell BK147.out 1).trans rfl; have hfz7_0 := blk_frozen BK147.out 0; have hfz7_1 := blk_frozen BK147.out 1) | ((with_reducible refine gate_callee (f := 51) rfl ?_); refine goesL_ (some 17) rfl rfl Try.func51 (by kernel_rfl) rfl #[.bool true, .int .i64 221] rfl (by (try simp only [List.map_toArray, List.map_cons, List.map_nil]); first | done | rfl | (simp only [List.length_drop, List.length_take]; rfl)) ?_; (with_reducible refine (proof_need.calls true 221  _ A5.out).mono ?_); rintro e w' ⟨rfl, ⟨nd, rfl⟩⟩; refine ⟨_, rfl, ?_⟩))
  go_loopg [20] k (fun kq v20 w' => ∃ (x20_1 : Int), v20 = .int .i64 x20_1 ∧ Aside0 (proof_reduced.l0 kq l1 a2 l1 (l1.length : Int) x20_1 a0_0 l0_1 = some (r1, r2)) ∧ Aside0 (kq ≤ k) ∧ Aside0 (w'.heap[gb147]? = some (.cells #[.int .i64 a0_0, (.slice A0_1 l0_1.length c0_1)] 24 (0, 0))) ∧ Aside0 (Below w.heap.size w w'))
  case atStart => exact ⟨(0), (by first | rfl | (simp [*]; done)), H', ⟨Nat.le_refl _⟩, ⟨bx BK147.out⟩, ⟨lb⟩⟩
  case round =>
   clear H'
   try clear c1; try clear p2; try clear c4; try clear c4b0; try clear c4b1; try clear c5; try clear c6; try clear hcz7_0; try clear hcz7_1; try clear hfz7_0; try clear hfz7_1
   obtain ⟨x20_1, rfl, HA, HK1, BK147, HB⟩ := hrel
   cases gk with
   | zero => exact absurd HA.out (by simp [proof_reduced.l0])
   | succ k1 =>
    have H := HA.out
    clear HA
    simp only [proof_reduced.l0] at H
    by_cases c8 : x20_1 < (l1.length : Int)
    ·
     rw [if_pos c8] at H
     have c8b0 : decide (x20_1 < (l1.length : Int)) = true := decide_eq_true c8
     clear c8
     by_cases c9 : 0 ≤ x20_1
     rotate_left
     ·
      rw [if_neg c9] at H
      exact absurd H (by simp)
     rw [if_pos c9] at H
     have c9b0 : decide (0 ≤ x20_1) = true := decide_eq_true c9
     clear c9
     by_cases c10 : x20_1 < (l1.length : Int)
     rotate_left
     ·
      rw [if_neg c10] at H
      exact absurd H (by simp)
     rw [if_pos c10] at H
     have c10b0 : decide (x20_1 < (l1.length : Int)) = true := decide_eq_true c10
     clear c10
     by_cases c11 : (rd l1 x20_1) ≥ (-4398046511104)
     ·
      rw [if_pos c11] at H
      have c11b0 : decide ((-4398046511104) ≤ (rd l1 x20_1)) = true := decide_eq_true c11
      clear c11
      by_cases c12 : (rd l1 x20_1) ≤ 4398046511104
      ·
       rw [if_pos c12] at H
       have c12b0 : decide ((rd l1 x20_1) ≤ 4398046511104) = true := decide_eq_true c12
       clear c12
       have A13 := ak (show proof_need.f true 221 = some () from rfl)
       have H' := ak H
       clear H
       have p148 : 0 ≤ (x20_1 : Int) := oda
       have q148 : x20_1 < (l1.length : Int) := oda
       obtain ⟨ad148, e148, hx148_0⟩ := Kd.at_int HR1.out x20_1 p148 q148
       cases e148
       (try replace hx148_0 := (HB.out.cell (World.block_lt_of_cell? w _ hx148_0)).trans hx148_0)
       replace p148 := eq_true p148
       replace q148 := eq_true q148
       go_wp2_with (first | ((with_reducible refine gate_callee (f := 51) rfl ?_); refine goesL_ (some 30) rfl rfl Try.func51 (by kernel_rfl) rfl #[.bool true, .int .i64 221] rfl (by (try simp only [List.map_toArray, List.map_cons, List.map_nil]); first | done | rfl | (simp only [List.length_drop, List.length_take]; rfl)) ?_; (with_reducible refine (proof_need.calls true 221  _ A13.out).mono ?_); rintro e w' ⟨rfl, ⟨nd, rfl⟩⟩; refine ⟨_, rfl, ?_⟩))
       go_roundg k1
       case measure => have := HK1.out; omega
       case rel => exact ⟨(wrap64 (x20_1 + 1)), (by first | rfl | (simp [*]; done)), H', ⟨by have := HK1.out; omega⟩, ⟨bx BK147.out⟩, ⟨lb⟩⟩
      ·
       rw [if_neg c12] at H
       have c12b0 : decide ((rd l1 x20_1) ≤ 4398046511104) = false := decide_eq_false c12
       clear c12
       simp only [Option.some.injEq, Prod.mk.injEq] at H
       obtain ⟨rfl, rfl⟩ := H
       have p148 : 0 ≤ (x20_1 : Int) := oda
       have q148 : x20_1 < (l1.length : Int) := oda
       obtain ⟨ad148, e148, hx148_0⟩ := Kd.at_int HR1.out x20_1 p148 q148
       cases e148
       (try replace hx148_0 := (HB.out.cell (World.block_lt_of_cell? w _ hx148_0)).trans hx148_0)
       replace p148 := eq_true p148
       replace q148 := eq_true q148
       go_wp2_with (first | ((with_reducible refine gate_callee (f := 51) rfl ?_); refine panicsL_ (some 30) rfl rfl Try.func51 (by kernel_rfl) rfl #[.bool false, .int .i64 221] rfl (by (try simp only [List.map_toArray, List.map_cons, List.map_nil]); first | done | rfl | (simp only [List.length_drop, List.length_take]; rfl)) ?_; refine (proof_need.bad 221 _).mono ?_; rintro e w' ⟨rfl, rfl⟩; refine ⟨_, rfl, ?_⟩; (repeat (first | refine panic_then ?_ | refine panic_block ?_)); exact panic_body rfl (Gave.no (by first | decide | assumption | (simp_all; done)) ⟨rfl, lb⟩)))
     ·
      rw [if_neg c11] at H
      have c11b0 : decide ((-4398046511104) ≤ (rd l1 x20_1)) = false := decide_eq_false c11
      clear c11
      simp only [Option.some.injEq, Prod.mk.injEq] at H
      obtain ⟨rfl, rfl⟩ := H
      have p148 : 0 ≤ (x20_1 : Int) := oda
      have q148 : x20_1 < (l1.length : Int) := oda
      obtain ⟨ad148, e148, hx148_0⟩ := Kd.at_int HR1.out x20_1 p148 q148
      cases e148
      (try replace hx148_0 := (HB.out.cell (World.block_lt_of_cell? w _ hx148_0)).trans hx148_0)
      replace p148 := eq_true p148
      replace q148 := eq_true q148
      go_wp2_with (first | ((with_reducible refine gate_callee (f := 51) rfl ?_); refine panicsL_ (some 30) rfl rfl Try.func51 (by kernel_rfl) rfl #[.bool false, .int .i64 221] rfl (by (try simp only [List.map_toArray, List.map_cons, List.map_nil]); first | done | rfl | (simp only [List.length_drop, List.length_take]; rfl)) ?_; refine (proof_need.bad 221 _).mono ?_; rintro e w' ⟨rfl, rfl⟩; refine ⟨_, rfl, ?_⟩; (repeat (first | refine panic_then ?_ | refine panic_block ?_)); exact panic_body rfl (Gave.no (by first | decide | assumption | (simp_all; done)) ⟨rfl, lb⟩)))
    ·
     rw [if_neg c8] at H
     have c8b0 : decide (x20_1 < (l1.length : Int)) = false := decide_eq_false c8
     clear c8
     by_cases c14 : 0 ≤ (l0_1.length : Int)
     rotate_left
     ·
      rw [if_neg c14] at H
      exact absurd H (by simp)
     rw [if_pos c14] at H
     have c14b0 := eq_true c14
     have c14b1 : decide (0 ≤ (l0_1.length : Int)) = true := decide_eq_true c14
     clear c14
     by_cases c15 : ((l0_1.length : Int) : Int).toNat ≤ 35184372088832
     rotate_left
     ·
      rw [if_neg c15] at H
      exact absurd H (by simp)
     rw [if_pos c15] at H
     have c15b0 := eq_true c15
     have c15b1 : decide (((l0_1.length : Int) : Int).toNat ≤ 35184372088832) = true := decide_eq_true c15
     clear c15
     obtain ⟨y149, hy149⟩ : ∃ y_ : List Int, y_ = (([] : List Int)) := ⟨_, rfl⟩
     replace H : (proof_reduced.l1 k1 l1 a2 y149 l0_1 (l0_1.length : Int) 0) = some (r1, r2) := by first | (rw [hy149]; exact H) | exact H
     have Ny149 := ak hy149
     clear hy149
     have H' := ak H
     clear H
     have hcz16_0 : wr.cell? ⟨gb147, 0, none⟩ = some (.int .i64 a0_0) := (blk_cell BK147.out 0).trans rfl
     have hcz16_1 : wr.cell? ⟨gb147, 1, none⟩ = some (.slice A0_1 l0_1.length c0_1) := (blk_cell BK147.out 1).trans rfl
     have hfz16_0 := blk_frozen BK147.out 0
     have hfz16_1 := blk_frozen BK147.out 1
     go_wp2_with (first | ((with_reducible refine gate_dst (N := 35) rfl ?_); refine Kd.R_make0 (Kd.int .i64) _ 2 rfl (N := 35) rfl 25 _ _ rfl (l0_1.length : Int) rfl rfl Try.underlying25 (.int .i64 0) 8 info2 rfl (by decide) (by omega) 0 (ok := fun _ => True) (okp := fun _ => True) rfl (fun _ hk => hk) trivial (oda) (Nat.le_trans (Nat.mul_le_mul_right _ (oda : (l0_1.length : Int).toNat ≤ 35184372088832)) (by omega)) (Below.refl _ _) (Nat.le_refl _) ?_; intro v150 w17 ho18 hb hg_ hnew_; clear hg_ hnew_; (first | rw [← Ny149.out] at ho18 | (simp only [Int.reduceToNat] at ho18; rw [← Ny149.out] at ho18)); have n0_ := ak (Kd.R_lower ho18 (below_size lb)); have n1_ := ak (blk_below (bx BK147.out) hb); have n2_ := ak (below_step lb hb); clear BK147; clear HB; have HO151 := n0_; have BK147 := n1_; have HB := n2_; clear n0_ n1_ n2_; clear hb ho18; have hcz19_0 : w17.cell? ⟨gb147, 0, none⟩ = some (.int .i64 a0_0) := (blk_cell BK147.out 0).trans rfl; have hcz19_1 : w17.cell? ⟨gb147, 1, none⟩ = some (.slice A0_1 l0_1.length c0_1) := (blk_cell BK147.out 1).trans rfl; have hfz19_0 := blk_frozen BK147.out 0; have hfz19_1 := blk_frozen BK147.out 1))
     go_loopg [9, 39] k1 (fun kq v9 v39 w' => ∃ (x9_2 : List Int) (x39_2 : Int), v39 = .int .i64 x39_2 ∧ Aside0 (proof_reduced.l1 kq l1 a2 x9_2 l0_1 (l0_1.length : Int) x39_2 = some (r1, r2)) ∧ Aside0 (kq ≤ k1) ∧ Aside0 (Kd.R (Kd.int .i64) 2 w' w.heap.size (fun _ => True) v9 x9_2) ∧ Aside0 (w'.heap[gb147]? = some (.cells #[.int .i64 a0_0, (.slice A0_1 l0_1.length c0_1)] 24 (0, 0))) ∧ Aside0 (Below w.heap.size w w'))
     case atStart => exact ⟨(y149), (0), (by first | rfl | (simp [*]; done)), H', ⟨Nat.le_refl _⟩, ⟨rx HO151.out⟩, ⟨bx BK147.out⟩, ⟨lb⟩⟩
     case round =>
      clear H'
      try clear c1; try clear p1; try clear q1; try clear hx1; try clear p2; try clear c4; try clear c4b0; try clear c4b1; try clear c5; try clear c6; try clear p6; try clear c8; try clear c8b0; try clear c9; try clear c9b0; try clear c10; try clear c10b0; try clear c11; try clear c11b0; try clear c12; try clear c12b0; try clear c14; try clear c14b0; try clear c14b1; try clear p14; try clear q14; try clear hx14; try clear c15; try clear c15b0; try clear c15b1; try clear hcz16_0; try clear hcz16_1; try clear hcz19_0; try clear hcz19_1; try clear hcz7_0; try clear hcz7_1; try clear hfz16_0; try clear hfz16_1; try clear hfz19_0; try clear hfz19_1; try clear hfz7_0; try clear hfz7_1; try clear hx148_0; try clear p148; try clear p2; try clear q148
      obtain ⟨x9_2, x39_2, rfl, HA, HK2, HO_9, BK147, HB⟩ := hrel
      cases gk with
      | zero => exact absurd HA.out (by simp [proof_reduced.l1])
      | succ k2 =>
       have H := HA.out
       clear HA
       simp only [proof_reduced.l1] at H
       by_cases c20 : x39_2 < (l0_1.length : Int)
       ·
        rw [if_pos c20] at H
        have c20b0 : decide (x39_2 < (l0_1.length : Int)) = true := decide_eq_true c20
        clear c20
        by_cases c21 : 0 ≤ x39_2
        rotate_left
        ·
         rw [if_neg c21] at H
         exact absurd H (by simp)
        rw [if_pos c21] at H
        have c21b0 : decide (0 ≤ x39_2) = true := decide_eq_true c21
        clear c21
        by_cases c22 : x39_2 < (l0_1.length : Int)
        rotate_left
        ·
         rw [if_neg c22] at H
         exact absurd H (by simp)
        rw [if_pos c22] at H
        have c22b0 : decide (x39_2 < (l0_1.length : Int)) = true := decide_eq_true c22
        clear c22
        by_cases c23 : 0 ≤ ((rd_T98 l0_1 x39_2).f0)
        rotate_left
        ·
         rw [if_neg c23] at H
         exact absurd H (by simp)
        rw [if_pos c23] at H
        have c23b0 : decide (0 ≤ ((rd_T98 l0_1 x39_2).f0)) = true := decide_eq_true c23
        clear c23
        by_cases c24 : ((rd_T98 l0_1 x39_2).f0) < (l1.length : Int)
        rotate_left
        ·
         rw [if_neg c24] at H
         exact absurd H (by simp)
        rw [if_pos c24] at H
        have c24b0 : decide (((rd_T98 l0_1 x39_2).f0) < (l1.length : Int)) = true := decide_eq_true c24
        clear c24
        by_cases c25 : 0 ≤ ((rd_T98 l0_1 x39_2).f1)
        rotate_left
        ·
         rw [if_neg c25] at H
         exact absurd H (by simp)
        rw [if_pos c25] at H
        have c25b0 : decide (0 ≤ ((rd_T98 l0_1 x39_2).f1)) = true := decide_eq_true c25
        clear c25
        by_cases c26 : ((rd_T98 l0_1 x39_2).f1) < (l1.length : Int)
        rotate_left
        ·
         rw [if_neg c26] at H
         exact absurd H (by simp)
        rw [if_pos c26] at H
        have c26b0 : decide (((rd_T98 l0_1 x39_2).f1) < (l1.length : Int)) = true := decide_eq_true c26
        clear c26
        by_cases c27 : x9_2.length < 17592186044416
        rotate_left
        ·
         rw [if_neg c27] at H
         exact absurd H (by simp)
        rw [if_pos c27] at H
        have LMc27 := ak c27
        clear c27
        obtain ⟨y156, hy156⟩ : ∃ y_ : List Int, y_ = (x9_2 ++ [wrap64 ((wrap64 ((wrap64 (a2 * ((rd_T98 l0_1 x39_2).f3))) + (rd l1 ((rd_T98 l0_1 x39_2).f0)))) - (rd l1 ((rd_T98 l0_1 x39_2).f1)))]) := ⟨_, rfl⟩
        replace H : (proof_reduced.l1 k2 l1 a2 y156 l0_1 (l0_1.length : Int) (wrap64 (x39_2 + 1))) = some (r1, r2) := by first | (rw [hy156]; exact H) | exact H
        have Ny156 := ak hy156
        clear hy156
        have H' := ak H
        clear H
        have p152 : 0 ≤ (x39_2 : Int) := oda
        have q152 : x39_2 < (l0_1.length : Int) := oda
        obtain ⟨ad152, e152, hx152_0, hx152_1, hx152_2, hx152_3⟩ := at_T98 HR0_1.out x39_2 p152 q152
        cases e152
        (try replace hx152_0 := (HB.out.cell (World.block_lt_of_cell? w _ hx152_0)).trans hx152_0)
        (try replace hx152_1 := (HB.out.cell (World.block_lt_of_cell? w _ hx152_1)).trans hx152_1)
        (try replace hx152_2 := (HB.out.cell (World.block_lt_of_cell? w _ hx152_2)).trans hx152_2)
        (try replace hx152_3 := (HB.out.cell (World.block_lt_of_cell? w _ hx152_3)).trans hx152_3)
        replace p152 := eq_true p152
        replace q152 := eq_true q152
        try go_wp2_with (first | ((with_reducible refine gate_dst (N := 11) rfl ?_); refine box_event ?hg (N := 11) ?hd (cs := #[.int .i64 0, .int .i64 0, .int .i64 0, .int .i64 0]) (t := 98) ?hr ?_; (case hd => rfl); (case hg => rfl); (case hr => first | (go_simp; done) | (go_simp; rfl)); intro gb153 hg w28 hbox hb; have n0_ := ak (Kd.R_below (rx HO_9.out) hb); have n1_ := ak (blk_below (bx BK147.out) hb); have n2_ := ak (below_step lb hb); have n3_ := ak (hbox); have n4_ := ak ((by rw [hg]; exact (below_size lb) : w.heap.size ≤ gb153)); have n5_ := ak ((by rw [hg]; exact (below_size lb) : w.heap.size ≤ gb153)); have n6_ := ak ((by rw [hg]; exact Nat.ne_of_lt (blk_lt (g := gb147) (o := .cells #[.int .i64 a0_0, .slice (some ad152) l0_1.length c0_1] 24 (0, 0)) (bx BK147.out)) : gb147 ≠ gb153)); have n7_ := ak ((by rw [hg]; exact Nat.ne_of_gt (blk_lt (g := gb147) (o := .cells #[.int .i64 a0_0, .slice (some ad152) l0_1.length c0_1] 24 (0, 0)) (bx BK147.out)) : gb153 ≠ gb147)); clear HO_9; clear BK147; clear HB; have HO_9 := n0_; have BK147 := n1_; have HB := n2_; have BK153 := n3_; have GW153 := n4_; have GE153 := n5_; have NB147_153 := n6_; have NB153_147 := n7_; clear n0_ n1_ n2_ n3_ n4_ n5_ n6_ n7_; clear hb hbox hg; have hnb29 := NB153_147.out; have hnc29 := NB147_153.out; have hcz30_0 : w28.cell? ⟨gb153, 0, none⟩ = some (.int .i64 0) := (blk_cell BK153.out 0).trans rfl; have hcz30_1 : w28.cell? ⟨gb153, 1, none⟩ = some (.int .i64 0) := (blk_cell BK153.out 1).trans rfl; have hcz30_2 : w28.cell? ⟨gb153, 2, none⟩ = some (.int .i64 0) := (blk_cell BK153.out 2).trans rfl; have hcz30_3 : w28.cell? ⟨gb153, 3, none⟩ = some (.int .i64 0) := (blk_cell BK153.out 3).trans rfl; have hfz30_0 := blk_frozen BK153.out 0; have hfz30_1 := blk_frozen BK153.out 1; have hfz30_2 := blk_frozen BK153.out 2; have hfz30_3 := blk_frozen BK153.out 3))
        have n0_ : Aside0 (Kd.R (Kd.int .i64) 2 ((((w28.setCell ⟨gb153, 0, none⟩ (.int .i64 ((rd_T98 l0_1 x39_2).f0))).setCell ⟨gb153, 1, none⟩ (.int .i64 ((rd_T98 l0_1 x39_2).f1))).setCell ⟨gb153, 2, none⟩ (.int .i64 ((rd_T98 l0_1 x39_2).f2))).setCell ⟨gb153, 3, none⟩ (.int .i64 ((rd_T98 l0_1 x39_2).f3))) w.heap.size (fun _ => True) u9 x9_2) := ⟨by exact rx (Kd.R_mono (Kd.R_far (p := ⟨gb153, 3, none⟩) (Kd.R_far (p := ⟨gb153, 2, none⟩) (Kd.R_far (p := ⟨gb153, 1, none⟩) (Kd.R_far (p := ⟨gb153, 0, none⟩) (Kd.R_types HO_9.out BK153.out (by decide)) (fun _ hk => hk.2) (.int .i64 ((rd_T98 l0_1 x39_2).f0))) (fun _ hk => hk.2) (.int .i64 ((rd_T98 l0_1 x39_2).f1))) (fun _ hk => hk.2) (.int .i64 ((rd_T98 l0_1 x39_2).f2))) (fun _ hk => hk.2) (.int .i64 ((rd_T98 l0_1 x39_2).f3))) (fun _ hk => trivial))⟩
        have n1_ : Aside0 (((((w28.setCell ⟨gb153, 0, none⟩ (.int .i64 ((rd_T98 l0_1 x39_2).f0))).setCell ⟨gb153, 1, none⟩ (.int .i64 ((rd_T98 l0_1 x39_2).f1))).setCell ⟨gb153, 2, none⟩ (.int .i64 ((rd_T98 l0_1 x39_2).f2))).setCell ⟨gb153, 3, none⟩ (.int .i64 ((rd_T98 l0_1 x39_2).f3))).heap[gb147]? = some (.cells #[.int .i64 a0_0, .slice (some ad152) l0_1.length c0_1] 24 (0, 0))) := ⟨by (with_reducible repeat (first | refine blk_drewN ?_ _ | refine blk_drew ?_ | refine blk_alloc ?_ _)); refine blk_far ?_ NB147_153.out _; (with_reducible repeat (first | refine blk_drewN ?_ _ | refine blk_drew ?_ | refine blk_alloc ?_ _)); refine blk_far ?_ NB147_153.out _; (with_reducible repeat (first | refine blk_drewN ?_ _ | refine blk_drew ?_ | refine blk_alloc ?_ _)); refine blk_far ?_ NB147_153.out _; (with_reducible repeat (first | refine blk_drewN ?_ _ | refine blk_drew ?_ | refine blk_alloc ?_ _)); refine blk_far ?_ NB147_153.out _; exact bx BK147.out⟩
        have n2_ : Aside0 (((((w28.setCell ⟨gb153, 0, none⟩ (.int .i64 ((rd_T98 l0_1 x39_2).f0))).setCell ⟨gb153, 1, none⟩ (.int .i64 ((rd_T98 l0_1 x39_2).f1))).setCell ⟨gb153, 2, none⟩ (.int .i64 ((rd_T98 l0_1 x39_2).f2))).setCell ⟨gb153, 3, none⟩ (.int .i64 ((rd_T98 l0_1 x39_2).f3))).heap[gb153]? = some (.cells #[.int .i64 ((rd_T98 l0_1 x39_2).f0), .int .i64 ((rd_T98 l0_1 x39_2).f1), .int .i64 ((rd_T98 l0_1 x39_2).f2), .int .i64 ((rd_T98 l0_1 x39_2).f3)] 98 (0, 0))) := ⟨by (with_reducible repeat (first | refine blk_drewN ?_ _ | refine blk_drew ?_ | refine blk_alloc ?_ _)); refine blk_put (cs := #[.int .i64 ((rd_T98 l0_1 x39_2).f0), .int .i64 ((rd_T98 l0_1 x39_2).f1), .int .i64 ((rd_T98 l0_1 x39_2).f2), .int .i64 0]) ?_ 3 _ rfl; (with_reducible repeat (first | refine blk_drewN ?_ _ | refine blk_drew ?_ | refine blk_alloc ?_ _)); refine blk_put (cs := #[.int .i64 ((rd_T98 l0_1 x39_2).f0), .int .i64 ((rd_T98 l0_1 x39_2).f1), .int .i64 0, .int .i64 0]) ?_ 2 _ rfl; (with_reducible repeat (first | refine blk_drewN ?_ _ | refine blk_drew ?_ | refine blk_alloc ?_ _)); refine blk_put (cs := #[.int .i64 ((rd_T98 l0_1 x39_2).f0), .int .i64 0, .int .i64 0, .int .i64 0]) ?_ 1 _ rfl; (with_reducible repeat (first | refine blk_drewN ?_ _ | refine blk_drew ?_ | refine blk_alloc ?_ _)); refine blk_put (cs := #[.int .i64 0, .int .i64 0, .int .i64 0, .int .i64 0]) ?_ 0 _ rfl; exact bx BK153.out⟩
        have n3_ : Aside0 (Below w.heap.size w ((((w28.setCell ⟨gb153, 0, none⟩ (.int .i64 ((rd_T98 l0_1 x39_2).f0))).setCell ⟨gb153, 1, none⟩ (.int .i64 ((rd_T98 l0_1 x39_2).f1))).setCell ⟨gb153, 2, none⟩ (.int .i64 ((rd_T98 l0_1 x39_2).f2))).setCell ⟨gb153, 3, none⟩ (.int .i64 ((rd_T98 l0_1 x39_2).f3)))) := ⟨lb⟩
        (try clear HO_9)
        (try clear BK147)
        (try clear BK153)
        (try clear HB)
        generalize ((((w28.setCell ⟨gb153, 0, none⟩ (.int .i64 ((rd_T98 l0_1 x39_2).f0))).setCell ⟨gb153, 1, none⟩ (.int .i64 ((rd_T98 l0_1 x39_2).f1))).setCell ⟨gb153, 2, none⟩ (.int .i64 ((rd_T98 l0_1 x39_2).f2))).setCell ⟨gb153, 3, none⟩ (.int .i64 ((rd_T98 l0_1 x39_2).f3))) = w31 at n0_ n1_ n2_ n3_ ⊢
        have HO_9 := n0_
        have BK147 := n1_
        have BK153 := n2_
        have HB := n3_
        clear n0_ n1_ n2_ n3_
        have n0_ := ak (Kd.R_drew HO_9.out)
        have n1_ := ak (blk_drew BK147.out)
        have n2_ := ak (blk_drew BK153.out)
        have n3_ := ak (below_drew1 HB.out)
        clear HO_9
        clear BK147
        clear BK153
        clear HB
        have HO_9 := n0_
        have BK147 := n1_
        have BK153 := n2_
        have HB := n3_
        clear n0_ n1_ n2_ n3_
        have p154 : 0 ≤ (((rd_T98 l0_1 x39_2).f0) : Int) := oda
        have q154 : ((rd_T98 l0_1 x39_2).f0) < (l1.length : Int) := oda
        obtain ⟨ad154, e154, hx154_0⟩ := Kd.at_int HR1.out ((rd_T98 l0_1 x39_2).f0) p154 q154
        have hw154_0 := hx154_0
        cases e154
        (try replace hx154_0 := (HB.out.cell (World.block_lt_of_cell? w _ hx154_0)).trans hx154_0)
        replace p154 := eq_true p154
        replace q154 := eq_true q154
        have p155 : 0 ≤ (((rd_T98 l0_1 x39_2).f1) : Int) := oda
        have q155 : ((rd_T98 l0_1 x39_2).f1) < (l1.length : Int) := oda
        obtain ⟨ad155, e155, hx155_0⟩ := Kd.at_int HR1.out ((rd_T98 l0_1 x39_2).f1) p155 q155
        have hw155_0 := hx155_0
        obtain rfl : ad154 = ad155 := (by injection e155)
        (try replace hx155_0 := (HB.out.cell (World.block_lt_of_cell? w _ hx155_0)).trans hx155_0)
        replace p155 := eq_true p155
        replace q155 := eq_true q155
        refine start_ (n := 20) (S := fun w' => w'.cell? ⟨gb153, 0, none⟩ = some (.int .i64 ((rd_T98 l0_1 x39_2).f0)) ∧ w'.cell? ⟨gb153, 1, none⟩ = some (.int .i64 ((rd_T98 l0_1 x39_2).f1)) ∧ w'.cell? ⟨gb153, 2, none⟩ = some (.int .i64 ((rd_T98 l0_1 x39_2).f2)) ∧ w'.cell? ⟨gb153, 3, none⟩ = some (.int .i64 ((rd_T98 l0_1 x39_2).f3)) ∧ w'.cell? (ad154.add (((rd_T98 l0_1 x39_2).f0)).toNat) = some (.int .i64 (rd l1 ((rd_T98 l0_1 x39_2).f0))) ∧ w'.cell? (ad154.add (((rd_T98 l0_1 x39_2).f1)).toNat) = some (.int .i64 (rd l1 ((rd_T98 l0_1 x39_2).f1)))) (ds := []) #[false, false, false, false, false, false, false, false, false, false, false, false, false, false, false, false, false, false, false, false] (by kernel_rfl) rfl rfl ⟨(blk_cell BK153.out 0).trans rfl, (blk_cell BK153.out 1).trans rfl, (blk_cell BK153.out 2).trans rfl, (blk_cell BK153.out 3).trans rfl, ((HB.out.cell (World.block_lt_of_cell? w _ hw154_0)).trans hw154_0), ((HB.out.cell (World.block_lt_of_cell? w _ hw155_0)).trans hw155_0)⟩ (fun hHeld => ?_); refine with_tabW proof_reduced.tab11 proof_reduced.bits11 (fun HT_ HW_ => ?_)
        generalize w31.drew = w32 at HO_9 BK147 BK153 HB hx154_0 hx155_0 hHeld ⊢
        refine pure_ (i := 0) (N := some 43) (v := ?_) (a' := ?_) #[true, false, false, false, false, false, false, false, false, false, false, false, false, false, false, false, false, false, false, false] rfl rfl (any_of HT_.out (by kernel_rfl)) (fun _ _ _ h => h) (Or.inl ⟨by rfl, ?_⟩) ?_ ?_; rotate_left; intro w'; go_simp; with_reducible rfl; rotate_left; simp only [Act.put, List.setIfInBounds_toArray, List.set_cons_zero, List.set_cons_succ, i64_w, i32_w]; rfl
        refine pure_ (i := 1) (N := some 44) (v := ?_) (a' := ?_) #[true, true, false, false, false, false, false, false, false, false, false, false, false, false, false, false, false, false, false, false] rfl rfl (any_of HT_.out (by kernel_rfl)) (fun _ _ _ h => h) (Or.inl ⟨by rfl, ?_⟩) ?_ ?_; rotate_left; intro w'; go_simp; with_reducible rfl; rotate_left; simp only [Act.put, List.setIfInBounds_toArray, List.set_cons_zero, List.set_cons_succ, i64_w, i32_w]; rfl
        refine pure_ (i := 2) (N := some 45) (v := ?_) (a' := ?_) #[true, true, true, false, false, false, false, false, false, false, false, false, false, false, false, false, false, false, false, false] rfl rfl (any_of HT_.out (by kernel_rfl)) (fun _ _ _ h => h) (Or.inl ⟨by rfl, ?_⟩) ?_ ?_; rotate_left; intro w'; go_simp; with_reducible rfl; rotate_left; simp only [Act.put, List.setIfInBounds_toArray, List.set_cons_zero, List.set_cons_succ, i64_w, i32_w]; rfl
        refine pure_ (i := 5) (N := some 48) (v := ?_) (a' := ?_) #[true, true, true, false, false, true, false, false, false, false, false, false, false, false, false, false, false, false, false, false] rfl rfl (any_of HT_.out (by kernel_rfl)) (fun _ _ _ h => h) (Or.inl ⟨by rfl, ?_⟩) ?_ ?_; rotate_left; intro w'; go_simp; with_reducible rfl; rotate_left; simp only [Act.put, List.setIfInBounds_toArray, List.set_cons_zero, List.set_cons_succ, i64_w, i32_w]; rfl
        refine pure_ (i := 6) (N := some 49) (v := ?_) (a' := ?_) #[true, true, true, false, false, true, true, false, false, false, false, false, false, false, false, false, false, false, false, false] rfl rfl (any_of HT_.out (by kernel_rfl)) (fun _ _ _ h => h) (Or.inl ⟨by rfl, ?_⟩) ?_ ?_; rotate_left; intro w'; go_simp; with_reducible rfl; rotate_left; simp only [Act.put, List.setIfInBounds_toArray, List.set_cons_zero, List.set_cons_succ, i64_w, i32_w]; rfl
        refine pure_ (i := 11) (N := some 54) (v := ?_) (a' := ?_) #[true, true, true, false, false, true, true, false, false, false, false, true, false, false, false, false, false, false, false, false] rfl rfl (any_of HT_.out (by kernel_rfl)) (fun _ _ _ h => h) (Or.inl ⟨by rfl, ?_⟩) ?_ ?_; rotate_left; intro w'; go_simp; with_reducible rfl; rotate_left; simp only [Act.put, List.setIfInBounds_toArray, List.set_cons_zero, List.set_cons_succ, i64_w, i32_w]; rfl
        refine pure_ (i := 12) (N := some 55) (v := ?_) (a' := ?_) #[true, true, true, false, false, true, true, false, false, false, false, true, true, false, false, false, false, false, false, false] rfl rfl (any_of HT_.out (by kernel_rfl)) (fun _ _ _ h => h) (Or.inl ⟨by rfl, ?_⟩) ?_ ?_; rotate_left; intro w'; go_simp; with_reducible rfl; rotate_left; simp only [Act.put, List.setIfInBounds_toArray, List.set_cons_zero, List.set_cons_succ, i64_w, i32_w]; rfl
        refine take_ (i := 3) (N := some 46) (v := ?_) (a' := ?_) #[true, true, true, true, false, true, true, false, false, false, false, true, true, false, false, false, false, false, false, false] rfl rfl (take_ofW HT_.out HW_.out (by kernel_rfl)) (fun _ _ _ h => h) (Or.inl ⟨by rfl, ?_⟩) hHeld ?_ ?_; rotate_left; rintro w' ⟨s0, s1, s2, s3, s4, s5⟩; go_simp; with_reducible rfl; rotate_left; simp only [Act.put, List.setIfInBounds_toArray, List.set_cons_zero, List.set_cons_succ, i64_w, i32_w]; rfl
        refine pure_ (i := 4) (N := some 47) (v := ?_) (a' := ?_) #[true, true, true, true, true, true, true, false, false, false, false, true, true, false, false, false, false, false, false, false] rfl rfl (any_of HT_.out (by kernel_rfl)) (fun _ _ _ h => h) (Or.inl ⟨by rfl, ?_⟩) ?_ ?_; rotate_left; intro w'; go_simp; with_reducible rfl; rotate_left; simp only [Act.put, List.setIfInBounds_toArray, List.set_cons_zero, List.set_cons_succ, i64_w, i32_w]; rfl
        refine take_ (i := 7) (N := some 50) (v := ?_) (a' := ?_) #[true, true, true, true, true, true, true, true, false, false, false, true, true, false, false, false, false, false, false, false] rfl rfl (take_ofW HT_.out HW_.out (by kernel_rfl)) (fun _ _ _ h => h) (Or.inl ⟨by rfl, ?_⟩) hHeld ?_ ?_; rotate_left; rintro w' ⟨s0, s1, s2, s3, s4, s5⟩; go_simp; with_reducible rfl; rotate_left; simp only [Act.put, List.setIfInBounds_toArray, List.set_cons_zero, List.set_cons_succ, i64_w, i32_w]; rfl
        refine pure_ (i := 8) (N := some 51) (v := ?_) (a' := ?_) #[true, true, true, true, true, true, true, true, true, false, false, true, true, false, false, false, false, false, false, false] rfl rfl (any_of HT_.out (by kernel_rfl)) (fun _ _ _ h => h) (Or.inl ⟨by rfl, ?_⟩) ?_ ?_; rotate_left; intro w'; go_simp; with_reducible rfl; rotate_left; simp only [Act.put, List.setIfInBounds_toArray, List.set_cons_zero, List.set_cons_succ, i64_w, i32_w]; rfl
        refine take_ (i := 9) (N := some 52) (v := ?_) (a' := ?_) #[true, true, true, true, true, true, true, true, true, true, false, true, true, false, false, false, false, false, false, false] rfl rfl (take_ofW HT_.out HW_.out (by kernel_rfl)) (fun _ _ _ h => h) (Or.inl ⟨by rfl, ?_⟩) hHeld ?_ ?_; rotate_left; rintro w' ⟨s0, s1, s2, s3, s4, s5⟩; go_simp; with_reducible rfl; rotate_left; simp only [Act.put, List.setIfInBounds_toArray, List.set_cons_zero, List.set_cons_succ, i64_w, i32_w]; rfl
        refine pure_ (i := 10) (N := some 53) (v := ?_) (a' := ?_) #[true, true, true, true, true, true, true, true, true, true, true, true, true, false, false, false, false, false, false, false] rfl rfl (any_of HT_.out (by kernel_rfl)) (fun _ _ _ h => h) (Or.inl ⟨by rfl, ?_⟩) ?_ ?_; rotate_left; intro w'; go_simp; with_reducible rfl; rotate_left; simp only [Act.put, List.setIfInBounds_toArray, List.set_cons_zero, List.set_cons_succ, i64_w, i32_w]; rfl
        refine take_ (i := 13) (N := some 56) (v := ?_) (a' := ?_) #[true, true, true, true, true, true, true, true, true, true, true, true, true, true, false, false, false, false, false, false] rfl rfl (take_ofW HT_.out HW_.out (by kernel_rfl)) (fun _ _ _ h => h) (Or.inl ⟨by rfl, ?_⟩) hHeld ?_ ?_; rotate_left; rintro w' ⟨s0, s1, s2, s3, s4, s5⟩; go_simp; with_reducible rfl; rotate_left; simp only [Act.put, List.setIfInBounds_toArray, List.set_cons_zero, List.set_cons_succ, i64_w, i32_w]; rfl
        refine pure_ (i := 14) (N := some 57) (v := ?_) (a' := ?_) #[true, true, true, true, true, true, true, true, true, true, true, true, true, true, true, false, false, false, false, false] rfl rfl (any_of HT_.out (by kernel_rfl)) (fun _ _ _ h => h) (Or.inl ⟨by rfl, ?_⟩) ?_ ?_; rotate_left; intro w'; go_simp; with_reducible rfl; rotate_left; simp only [Act.put, List.setIfInBounds_toArray, List.set_cons_zero, List.set_cons_succ, i64_w, i32_w]; rfl
        refine take_ (i := 15) (N := some 58) (v := ?_) (a' := ?_) #[true, true, true, true, true, true, true, true, true, true, true, true, true, true, true, true, false, false, false, false] rfl rfl (take_ofW HT_.out HW_.out (by kernel_rfl)) (fun _ _ _ h => h) (Or.inl ⟨by rfl, ?_⟩) hHeld ?_ ?_; rotate_left; rintro w' ⟨s0, s1, s2, s3, s4, s5⟩; go_simp; with_reducible rfl; rotate_left; simp only [Act.put, List.setIfInBounds_toArray, List.set_cons_zero, List.set_cons_succ, i64_w, i32_w]; rfl
        refine pure_ (i := 16) (N := some 59) (v := ?_) (a' := ?_) #[true, true, true, true, true, true, true, true, true, true, true, true, true, true, true, true, true, false, false, false] rfl rfl (any_of HT_.out (by kernel_rfl)) (fun _ _ _ h => h) (Or.inl ⟨by rfl, ?_⟩) ?_ ?_; rotate_left; intro w'; go_simp; with_reducible rfl; rotate_left; simp only [Act.put, List.setIfInBounds_toArray, List.set_cons_zero, List.set_cons_succ, i64_w, i32_w]; rfl
        refine one_ (i := 17) (N := some 60) #[true, true, true, true, true, true, true, true, true, true, true, true, true, true, true, true, true, true, false, false] rfl rfl (one_of HT_.out (by kernel_rfl)) (by decide) (fun K hK => ?_)
        refine value_ (w1 := ?_) (v := ?_) (by rfl) rfl ?_ ?_
        rotate_left 2
        ·
         go_simp
         constructor
         ·
          rfl
         ·
          rfl
        refine hK.out _ _ ⟨(blk_cell (blk_alloc BK153.out _) 0).trans rfl, (blk_cell (blk_alloc BK153.out _) 1).trans rfl, (blk_cell (blk_alloc BK153.out _) 2).trans rfl, (blk_cell (blk_alloc BK153.out _) 3).trans rfl, (World.cell?_alloc_lt _ _ _ (World.block_lt_of_cell? _ _ (((HB.out.cell (World.block_lt_of_cell? w _ hw154_0)).trans hw154_0)))).trans (((HB.out.cell (World.block_lt_of_cell? w _ hw154_0)).trans hw154_0)), (World.cell?_alloc_lt _ _ _ (World.block_lt_of_cell? _ _ (((HB.out.cell (World.block_lt_of_cell? w _ hw155_0)).trans hw155_0)))).trans (((HB.out.cell (World.block_lt_of_cell? w _ hw155_0)).trans hw155_0))⟩ (fun hHeld => ?_)
        clear hK K
        refine norm_ (a' := ?_) ?_ ?_
        rotate_left
        ·
         show Act.put _ (some 60) _ = _
         simp only [Act.put, List.setIfInBounds_toArray, List.set_cons_zero, List.set_cons_succ, i64_w, i32_w]
         rfl
        refine one_ (i := 18) (N := some 61) #[true, true, true, true, true, true, true, true, true, true, true, true, true, true, true, true, true, true, true, false] rfl rfl (one_of HT_.out (by kernel_rfl)) (by decide) (fun K hK => ?_)
        refine Kd.R_append_step (Kd.int .i64) (w0 := w) w.heap.size (by rfl) (.tmp 43) (.tmp 60) 25 2 (.int .i64 0) 8 rfl Try.underlying25 info2 rfl (by decide) (by omega) u9 x9_2 (wrap64 ((wrap64 ((wrap64 (a2 * ((rd_T98 l0_1 x39_2).f3))) + (rd l1 ((rd_T98 l0_1 x39_2).f0)))) - (rd l1 ((rd_T98 l0_1 x39_2).f1)))) [.int .i64 (wrap64 ((wrap64 ((wrap64 (a2 * ((rd_T98 l0_1 x39_2).f3))) + (rd l1 ((rd_T98 l0_1 x39_2).f0)))) - (rd l1 ((rd_T98 l0_1 x39_2).f1))))] (fun _ => True) (fun _ => False) rfl rfl ?aP (fun _ hk => hk.elim) ?aF ?aO ?aB ?aS ?aL ?_
        (case aP => exact rfl)
        (case aB => exact lb)
        (case aF => exact (fun _ _ => trivial))
        (case aO => exact (rx HO_9.out))
        (case aS => exact (below_size lb))
        (case aL => have := LMc27.out; omega)
        intro v157 w33 ho hb hg hat
        rw [← Ny156.out] at ho
        have n0_ := ak (blk_grown (bx BK147.out) hg (Kd.R_ne HO_9.out BK147.out (by decide)))
        have n1_ := ak (blk_grown (bx BK153.out) hg (Kd.R_ne HO_9.out BK153.out (by decide)))
        have n2_ := ak (hb)
        have n3_ := ak (ho)
        clear BK147
        clear BK153
        clear HB
        clear HO_9
        have BK147 := n0_
        have BK153 := n1_
        have HB := n2_
        have HO158 := n3_
        clear n0_ n1_ n2_ n3_
        clear ho hb hg hat
        refine hK.out _ _ ⟨(blk_cell BK153.out 0).trans rfl, (blk_cell BK153.out 1).trans rfl, (blk_cell BK153.out 2).trans rfl, (blk_cell BK153.out 3).trans rfl, ((HB.out.cell (World.block_lt_of_cell? w _ hw154_0)).trans hw154_0), ((HB.out.cell (World.block_lt_of_cell? w _ hw155_0)).trans hw155_0)⟩ (fun hHeld => ?_)
        clear hK K
        refine norm_ (a' := ?_) ?_ ?_
        rotate_left
        ·
         show Act.put _ (some 61) _ = _
         simp only [Act.put, List.setIfInBounds_toArray, List.set_cons_zero, List.set_cons_succ, i64_w, i32_w]
         rfl
        refine pure_ (i := 19) (N := some 9) (v := ?_) (a' := ?_) #[true, true, true, true, true, true, true, true, true, true, true, true, true, true, true, true, true, true, true, true] rfl rfl (any_of HT_.out (by kernel_rfl)) (fun _ _ _ h => h) (Or.inl ⟨by rfl, ?_⟩) ?_ ?_; rotate_left; intro w'; go_simp; with_reducible rfl; rotate_left; simp only [Act.put, List.setIfInBounds_toArray, List.set_cons_zero, List.set_cons_succ, i64_w, i32_w]; rfl
        refine done_ (done_of HT_.out (by kernel_rfl)) ?_
        try go_wp2
        go_roundg k2
        case measure => have := HK1.out; have := HK2.out; omega
        case rel => exact ⟨(y156), (wrap64 (x39_2 + 1)), (by first | rfl | (simp [*]; done)), H', ⟨by have := HK1.out; have := HK2.out; omega⟩, ⟨rx HO158.out⟩, ⟨bx BK147.out⟩, ⟨lb⟩⟩
       ·
        rw [if_neg c20] at H
        have c20b0 : decide (x39_2 < (l0_1.length : Int)) = false := decide_eq_false c20
        clear c20
        simp only [Option.some.injEq, Prod.mk.injEq] at H
        obtain ⟨rfl, rfl⟩ := H
        go_wp2
        go_ret
        exact Gave.ok ⟨_, by first | rfl | (simp [errW_none, errW_some] <;> rfl) | (simp [*, errW_none, errW_some] <;> rfl), by exact rx HO_9.out, lb⟩
 ·
  rw [if_neg c4] at H
  have c4b0 : ((l1.length : Int) == a0_0) = false := beq_eq_false_iff_ne.mpr c4
  have c4b1 : ((l1.length : Int) != a0_0) = true := bne_iff_ne.mpr c4
  simp only [Option.some.injEq, Prod.mk.injEq] at H
  obtain ⟨rfl, rfl⟩ := H
  go_enter Try.func62, Try.ntmps62
  go_wp2_with (first | ((with_reducible refine gate_dst (N := 3) rfl ?_); refine box_event ?hg (N := 3) ?hd (cs := #[.int .i64 a0_0, .slice A0_1 l0_1.length c0_1]) (t := 24) ?hr ?_; (case hd => rfl); (case hg => rfl); (case hr => first | (go_simp; done) | (go_simp; rfl)); intro gb147 hg w34 hbox hb; have n0_ := ak (below_step lb hb); have n1_ := ak (hbox); have n2_ := ak ((by rw [hg]; exact (below_size lb) : w.heap.size ≤ gb147)); have n3_ := ak ((by rw [hg]; exact (below_size lb) : w.heap.size ≤ gb147)); clear HB; have HB := n0_; have BK147 := n1_; have GW147 := n2_; have GE147 := n3_; clear n0_ n1_ n2_ n3_; clear hb hbox hg; have hcz35_0 : w34.cell? ⟨gb147, 0, none⟩ = some (.int .i64 a0_0) := (blk_cell BK147.out 0).trans rfl; have hcz35_1 : w34.cell? ⟨gb147, 1, none⟩ = some (.slice A0_1 l0_1.length c0_1) := (blk_cell BK147.out 1).trans rfl; have hfz35_0 := blk_frozen BK147.out 0; have hfz35_1 := blk_frozen BK147.out 1) | ((with_reducible refine gate_callee (f := 51) rfl ?_); refine panicsL_ (some 17) rfl rfl Try.func51 (by kernel_rfl) rfl #[.bool false, .int .i64 221] rfl (by (try simp only [List.map_toArray, List.map_cons, List.map_nil]); first | done | rfl | (simp only [List.length_drop, List.length_take]; rfl)) ?_; refine (proof_need.bad 221 _).mono ?_; rintro e w' ⟨rfl, rfl⟩; refine ⟨_, rfl, ?_⟩; (repeat (first | refine panic_then ?_ | refine panic_block ?_)); exact panic_body rfl (Gave.no (by first | decide | assumption | (simp_all; done)) ⟨rfl, lb⟩)))
theorem proof_reduced.ok (k : Nat) (a0_0 : Int) (A0_1 : Option Addr) (c0_1 : Nat) (l0_1 : List (S98)) (A1 : Option Addr) (c1 : Nat) (l1 : List Int) (a2 : Int) (r2 : List Int) (w : World) (hr0_1 : Kd.C k98 w A0_1 l0_1.length l0_1) (hc0_1 : l0_1.length ≤ c0_1) (hr1 : Kd.C (Kd.int .i64) w A1 l1.length l1) (hc1 : l1.length ≤ c1) (h : proof_reduced.f k a0_0 l0_1 l1 a2 = some (0, r2)) :
    Calls Try.prog 62 #[.agg #[.int .i64 a0_0, .slice A0_1 l0_1.length c0_1], .slice A1 l1.length c1, .int .i64 a2] w fun e w' => ∃ v1_ : Value, e = .returned (v1_) ∧ Kd.R (Kd.int .i64) 2 w' w.heap.size (fun _ => True) v1_ r2 ∧ Below w.heap.size w w' :=
 (proof_reduced.calls k a0_0 A0_1 c0_1 l0_1 A1 c1 l1 a2 0 r2 w hr0_1 hc0_1 hr1 hc1 h).mono fun e w' h_ => h_.good rfl
theorem proof_reduced.bad (k : Nat) (a0_0 : Int) (A0_1 : Option Addr) (c0_1 : Nat) (l0_1 : List (S98)) (A1 : Option Addr) (c1 : Nat) (l1 : List Int) (a2 : Int) (r1 : Int) (r2 : List Int) (w : World) (hr0_1 : Kd.C k98 w A0_1 l0_1.length l0_1) (hc0_1 : l0_1.length ≤ c0_1) (hr1 : Kd.C (Kd.int .i64) w A1 l1.length l1) (hc1 : l1.length ≤ c1) (h : proof_reduced.f k a0_0 l0_1 l1 a2 = some (r1, r2)) (hne_ : r1 ≠ 0) :
    Calls Try.prog 62 #[.agg #[.int .i64 a0_0, .slice A0_1 l0_1.length c0_1], .slice A1 l1.length c1, .int .i64 a2] w fun e w' => e = gave r1 ∧ Below w.heap.size w w' :=
 (proof_reduced.calls k a0_0 A0_1 c0_1 l0_1 A1 c1 l1 a2 r1 r2 w hr0_1 hc0_1 hr1 hc1 h).mono fun e w' h_ => h_.bad hne_

end Go.Proofs.Ytkdoihcjhccliaa.Q
