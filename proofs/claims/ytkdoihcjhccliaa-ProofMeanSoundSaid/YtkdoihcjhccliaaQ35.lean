-- PRINTED by print.py (a twelfth state) out of the translation. Not trusted: Lean checks it.
import Derived.Test.YtkdoihcjhccliaaQ0
import Derived.Test.YtkdoihcjhccliaaQ23
import Derived.Test.YtkdoihcjhccliaaQ28
import Derived.Test.YtkdoihcjhccliaaQ32
import Derived.Test.YtkdoihcjhccliaaQ33
import Derived.Test.YtkdoihcjhccliaaQ34
namespace Go.Proofs.Ytkdoihcjhccliaa.Q
open Go.RowKit Go.Proofs.YtkdoihcjhccliaaW.PrintWords Go.Proofs.YtkdoihcjhccliaaW.PrintLast Go.Proofs.YtkdoihcjhccliaaW.PrintMore
attribute [local go_sem] max2_int min2_int max_two min_two max_three min_three max_four min_four   -- for this text's walks alone
set_option linter.unusedVariables false
set_option linter.unusedSimpArgs false

/-! ### compassref11_Mean: function 38 -/
mutual
def compassref11_Mean.j0 : Nat → List Int → List Int → Bool → Int → List (S98) → Option (Int × Int × Int)
  | 0, _, _, _, _, _ => none
  | k + 1, x1, x2, x32, x430000, x430001 => if x32 = true then (some (0, 0, 221)) else ((compassref08_Cost.f k x430000 x430001 x1).bind fun t434 => (compassref11_Mean.l0 k x2 t434 (x1.length : Int) 0 x430000 x430001))
def compassref11_Mean.l0 : Nat → List Int → Int → Int → Int → Int → List (S98) → Option (Int × Int × Int)
  | 0, _, _, _, _, _, _ => none
  | k + 1, x2, x11, x12, x13, x430000, x430001 => if x13 < (x430001.length : Int) then (if 0 ≤ x13 then (if 0 ≤ ((rd_T98 x430001 x13).f0) then (if ((rd_T98 x430001 x13).f0) < (x2.length : Int) then (if 0 ≤ ((rd_T98 x430001 x13).f1) then (if ((rd_T98 x430001 x13).f1) < (x2.length : Int) then (if (wrap64 ((wrap64 ((wrap64 (x12 * ((rd_T98 x430001 x13).f3))) - x11)) + (rd x2 ((rd_T98 x430001 x13).f0)))) < (rd x2 ((rd_T98 x430001 x13).f1)) then (some (0, 0, 221)) else (compassref11_Mean.l0 k x2 x11 x12 (wrap64 (x13 + 1)) x430000 x430001)) else (none)) else (none)) else (none)) else (none)) else (none)) else (some (x11, x12, 0))
end
def compassref11_Mean.f (k : Nat) (a0_0 : Int) (l0_1 : List (S98)) (l1 : List Int) (l2 : List Int) : Option (Int × Int × Int) := (compassref03_Check.f k a0_0 l0_1).bind fun bt430 => (if bt430.1 = 0 then ((compassref04_Circle.f k a0_0 l0_1 l1).bind fun t432 => (if t432 = true then ((compassref11_Pots.f k a0_0 l0_1 l2).bind fun t433 => (compassref11_Mean.j0 k l1 l2 (!t433) a0_0 l0_1)) else (compassref11_Mean.j0 k l1 l2 true a0_0 l0_1))) else (some (0, 0, bt430.1)))
set_option maxHeartbeats 8000000 in
set_option maxRecDepth 100000 in
theorem compassref11_Mean.calls (k : Nat) (a0_0 : Int) (A0_1 : Option Addr) (c0_1 : Nat) (l0_1 : List (S98)) (A1 : Option Addr) (c1 : Nat) (l1 : List Int) (A2 : Option Addr) (c2 : Nat) (l2 : List Int) (r1 : Int) (r2 : Int) (r3 : Int) (w : World) (hr0_1 : Kd.C k98 w A0_1 l0_1.length l0_1) (hc0_1 : l0_1.length ≤ c0_1) (hr1 : Kd.C (Kd.int .i64) w A1 l1.length l1) (hc1 : l1.length ≤ c1) (hr2 : Kd.C (Kd.int .i64) w A2 l2.length l2) (hc2 : l2.length ≤ c2) (h : compassref11_Mean.f k a0_0 l0_1 l1 l2 = some (r1, r2, r3)) :
    Calls Try.prog 38 #[.agg #[.int .i64 a0_0, .slice A0_1 l0_1.length c0_1], .slice A1 l1.length c1, .slice A2 l2.length c2] w fun e w' => e = .returned (.tuple #[.int .i64 r1, .int .i64 r2, .int .i64 r3]) ∧ Below w.heap.size w w' := by
 have hu24 := Try.underlying24
 have hu98 := Try.underlying98
 have HR0_1 := ak hr0_1
 have HC0_1 := ak hc0_1
 clear hr0_1 hc0_1
 have HR1 := ak hr1
 have HC1 := ak hc1
 clear hr1 hc1
 have HR2 := ak hr2
 have HC2 := ak hc2
 clear hr2 hc2
 have HB := ak (Below.refl w.heap.size w)
 have H : ((compassref03_Check.f k a0_0 l0_1).bind fun bt430 => (if bt430.1 = 0 then ((compassref04_Circle.f k a0_0 l0_1 l1).bind fun t432 => (if t432 = true then ((compassref11_Pots.f k a0_0 l0_1 l2).bind fun t433 => (compassref11_Mean.j0 k l1 l2 (!t433) a0_0 l0_1)) else (compassref11_Mean.j0 k l1 l2 true a0_0 l0_1))) else (some (0, 0, bt430.1)))) = some (r1, r2, r3) := h
 clear h
 replace H := Option.bind_eq_some_iff.mp H
 obtain ⟨⟨t430, t431⟩, A40, H⟩ := H
 replace H : (if t430 = 0 then ((compassref04_Circle.f k a0_0 l0_1 l1).bind fun t432 => (if t432 = true then ((compassref11_Pots.f k a0_0 l0_1 l2).bind fun t433 => (compassref11_Mean.j0 k l1 l2 (!t433) a0_0 l0_1)) else (compassref11_Mean.j0 k l1 l2 true a0_0 l0_1))) else (some (0, 0, t430))) = some (r1, r2, r3) := H
 have A4 := ak A40
 clear A40
 by_cases c5 : t430 = 0
 rotate_left
 ·
  rw [if_neg c5] at H
  have c5b0 := bn c5
  have c5b1 : (t430 != 0) = true := bne_iff_ne.mpr c5
  simp only [Option.some.injEq, Prod.mk.injEq] at H
  obtain ⟨rfl, rfl, rfl⟩ := H
  go_enter Try.func38, Try.ntmps38
  go_wp2_with (first | ((with_reducible refine gate_dst (N := 3) rfl ?_); refine bxe 3 #[.int .i64 a0_0, .slice A0_1 l0_1.length c0_1] 24 ?_; intro gb429 hg w39 hbox hb; have n0_ := ak (bl hb); have n1_ := ak (hbox); have n2_ := ak ((by rw [hg]; exact (below_size lb) : w.heap.size ≤ gb429)); have n3_ := ak ((by rw [hg]; exact (below_size lb) : w.heap.size ≤ gb429)); clear HB; have HB := n0_; have BK429 := n1_; have GW429 := n2_; have GE429 := n3_; clear n0_ n1_ n2_ n3_; clear hb hbox hg; have hcz40_0 : w39.cell? ⟨gb429, 0, none⟩ = some (.int .i64 a0_0) := (blk_cell BK429.out 0).trans rfl; have hcz40_1 : w39.cell? ⟨gb429, 1, none⟩ = some (.slice A0_1 l0_1.length c0_1) := (blk_cell BK429.out 1).trans rfl; have hfz40_0 := blk_frozen BK429.out 0; have hfz40_1 := blk_frozen BK429.out 1) | (go_at_call 44; (with_reducible refine (compassref03_Check.calls k a0_0 _ _ l0_1 t430 t431 _ (Kd.C_below HR0_1.out lb) HC0_1.out A4.out).mono ?_); rintro e w41 ⟨rfl, hb⟩; have n0_ := ak (bo BK429 hb); have n1_ := ak (bl hb); clear BK429; clear HB; have BK429 := n0_; have HB := n1_; clear n0_ n1_; clear hb))
  repeat (go_quiet (first | ((with_reducible refine gate_dst (N := 3) rfl ?_); refine bxe 3 #[.int .i64 a0_0, .slice A0_1 l0_1.length c0_1] 24 ?_; intro gb429 hg w39 hbox hb; have n0_ := ak (bl hb); have n1_ := ak (hbox); have n2_ := ak ((by rw [hg]; exact (below_size lb) : w.heap.size ≤ gb429)); have n3_ := ak ((by rw [hg]; exact (below_size lb) : w.heap.size ≤ gb429)); clear HB; have HB := n0_; have BK429 := n1_; have GW429 := n2_; have GE429 := n3_; clear n0_ n1_ n2_ n3_; clear hb hbox hg; have hcz40_0 : w39.cell? ⟨gb429, 0, none⟩ = some (.int .i64 a0_0) := (blk_cell BK429.out 0).trans rfl; have hcz40_1 : w39.cell? ⟨gb429, 1, none⟩ = some (.slice A0_1 l0_1.length c0_1) := (blk_cell BK429.out 1).trans rfl; have hfz40_0 := blk_frozen BK429.out 0; have hfz40_1 := blk_frozen BK429.out 1) | (go_at_call 44; (with_reducible refine (compassref03_Check.calls k a0_0 _ _ l0_1 t430 t431 _ (Kd.C_below HR0_1.out lb) HC0_1.out A4.out).mono ?_); rintro e w41 ⟨rfl, hb⟩; have n0_ := ak (bo BK429 hb); have n1_ := ak (bl hb); clear BK429; clear HB; have BK429 := n0_; have HB := n1_; clear n0_ n1_; clear hb)); try go_wp2_with (first | ((with_reducible refine gate_dst (N := 3) rfl ?_); refine bxe 3 #[.int .i64 a0_0, .slice A0_1 l0_1.length c0_1] 24 ?_; intro gb429 hg w39 hbox hb; have n0_ := ak (bl hb); have n1_ := ak (hbox); have n2_ := ak ((by rw [hg]; exact (below_size lb) : w.heap.size ≤ gb429)); have n3_ := ak ((by rw [hg]; exact (below_size lb) : w.heap.size ≤ gb429)); clear HB; have HB := n0_; have BK429 := n1_; have GW429 := n2_; have GE429 := n3_; clear n0_ n1_ n2_ n3_; clear hb hbox hg; have hcz40_0 : w39.cell? ⟨gb429, 0, none⟩ = some (.int .i64 a0_0) := (blk_cell BK429.out 0).trans rfl; have hcz40_1 : w39.cell? ⟨gb429, 1, none⟩ = some (.slice A0_1 l0_1.length c0_1) := (blk_cell BK429.out 1).trans rfl; have hfz40_0 := blk_frozen BK429.out 0; have hfz40_1 := blk_frozen BK429.out 1) | (go_at_call 44; (with_reducible refine (compassref03_Check.calls k a0_0 _ _ l0_1 t430 t431 _ (Kd.C_below HR0_1.out lb) HC0_1.out A4.out).mono ?_); rintro e w41 ⟨rfl, hb⟩; have n0_ := ak (bo BK429 hb); have n1_ := ak (bl hb); clear BK429; clear HB; have BK429 := n0_; have HB := n1_; clear n0_ n1_; clear hb)))
  go_ret3
  exact ⟨er, lb⟩

 rw [if_pos c5] at H
 have c5b0 := be c5
 have c5b1 : (t430 != 0) = false := bne_eq_false_iff_eq.mpr c5
 clear c5
 have HC6 := ak H
 clear H
 go_enter Try.func38, Try.ntmps38
 go_upto_region 4 with (first | ((with_reducible refine gate_dst (N := 3) rfl ?_); refine bxe 3 #[.int .i64 a0_0, .slice A0_1 l0_1.length c0_1] 24 ?_; intro gb429 hg w7 hbox hb; have n0_ := ak (bl hb); have n1_ := ak (hbox); have n2_ := ak ((by rw [hg]; exact (below_size lb) : w.heap.size ≤ gb429)); have n3_ := ak ((by rw [hg]; exact (below_size lb) : w.heap.size ≤ gb429)); clear HB; have HB := n0_; have BK429 := n1_; have GW429 := n2_; have GE429 := n3_; clear n0_ n1_ n2_ n3_; clear hb hbox hg; have hcz8_0 : w7.cell? ⟨gb429, 0, none⟩ = some (.int .i64 a0_0) := (blk_cell BK429.out 0).trans rfl; have hcz8_1 : w7.cell? ⟨gb429, 1, none⟩ = some (.slice A0_1 l0_1.length c0_1) := (blk_cell BK429.out 1).trans rfl; have hfz8_0 := blk_frozen BK429.out 0; have hfz8_1 := blk_frozen BK429.out 1) | (go_at_call 44; (with_reducible refine (compassref03_Check.calls k a0_0 _ _ l0_1 t430 t431 _ (Kd.C_below HR0_1.out lb) HC0_1.out A4.out).mono ?_); rintro e w9 ⟨rfl, hb⟩; have n0_ := ak (bo BK429 hb); have n1_ := ak (bl hb); clear BK429; clear HB; have BK429 := n0_; have HB := n1_; clear n0_ n1_; clear hb))
 repeat (go_quiet (first | ((with_reducible refine gate_dst (N := 3) rfl ?_); refine bxe 3 #[.int .i64 a0_0, .slice A0_1 l0_1.length c0_1] 24 ?_; intro gb429 hg w7 hbox hb; have n0_ := ak (bl hb); have n1_ := ak (hbox); have n2_ := ak ((by rw [hg]; exact (below_size lb) : w.heap.size ≤ gb429)); have n3_ := ak ((by rw [hg]; exact (below_size lb) : w.heap.size ≤ gb429)); clear HB; have HB := n0_; have BK429 := n1_; have GW429 := n2_; have GE429 := n3_; clear n0_ n1_ n2_ n3_; clear hb hbox hg; have hcz8_0 : w7.cell? ⟨gb429, 0, none⟩ = some (.int .i64 a0_0) := (blk_cell BK429.out 0).trans rfl; have hcz8_1 : w7.cell? ⟨gb429, 1, none⟩ = some (.slice A0_1 l0_1.length c0_1) := (blk_cell BK429.out 1).trans rfl; have hfz8_0 := blk_frozen BK429.out 0; have hfz8_1 := blk_frozen BK429.out 1) | (go_at_call 44; (with_reducible refine (compassref03_Check.calls k a0_0 _ _ l0_1 t430 t431 _ (Kd.C_below HR0_1.out lb) HC0_1.out A4.out).mono ?_); rintro e w9 ⟨rfl, hb⟩; have n0_ := ak (bo BK429 hb); have n1_ := ak (bl hb); clear BK429; clear HB; have BK429 := n0_; have HB := n1_; clear n0_ n1_; clear hb)); go_upto_region 4 with (first | ((with_reducible refine gate_dst (N := 3) rfl ?_); refine bxe 3 #[.int .i64 a0_0, .slice A0_1 l0_1.length c0_1] 24 ?_; intro gb429 hg w7 hbox hb; have n0_ := ak (bl hb); have n1_ := ak (hbox); have n2_ := ak ((by rw [hg]; exact (below_size lb) : w.heap.size ≤ gb429)); have n3_ := ak ((by rw [hg]; exact (below_size lb) : w.heap.size ≤ gb429)); clear HB; have HB := n0_; have BK429 := n1_; have GW429 := n2_; have GE429 := n3_; clear n0_ n1_ n2_ n3_; clear hb hbox hg; have hcz8_0 : w7.cell? ⟨gb429, 0, none⟩ = some (.int .i64 a0_0) := (blk_cell BK429.out 0).trans rfl; have hcz8_1 : w7.cell? ⟨gb429, 1, none⟩ = some (.slice A0_1 l0_1.length c0_1) := (blk_cell BK429.out 1).trans rfl; have hfz8_0 := blk_frozen BK429.out 0; have hfz8_1 := blk_frozen BK429.out 1) | (go_at_call 44; (with_reducible refine (compassref03_Check.calls k a0_0 _ _ l0_1 t430 t431 _ (Kd.C_below HR0_1.out lb) HC0_1.out A4.out).mono ?_); rintro e w9 ⟨rfl, hb⟩; have n0_ := ak (bo BK429 hb); have n1_ := ak (bl hb); clear BK429; clear HB; have BK429 := n0_; have HB := n1_; clear n0_ n1_; clear hb)))
 (try simp only [Act.put, List.setIfInBounds_toArray, List.set_cons_zero, List.set_cons_succ])
 go_cut [32] (fun v32 wc => ∃ (kq : Nat) (x32_5 : Bool), v32 = .bool x32_5 ∧ Aside0 (compassref11_Mean.j0 kq l1 l2 x32_5 a0_0 l0_1 = some (r1, r2, r3)) ∧ Aside0 (kq ≤ k) ∧ Aside0 (wc.heap[gb429]? = some (.cells #[.int .i64 a0_0, (.slice A0_1 l0_1.length c0_1)] 24 (0, 0))) ∧ Aside0 (Below w.heap.size w wc))
 case first =>
  have H := HC6.out
  clear HC6
  replace H := Option.bind_eq_some_iff.mp H
  obtain ⟨t432, A100, H⟩ := H
  replace H : (if t432 = true then ((compassref11_Pots.f k a0_0 l0_1 l2).bind fun t433 => (compassref11_Mean.j0 k l1 l2 (!t433) a0_0 l0_1)) else (compassref11_Mean.j0 k l1 l2 true a0_0 l0_1)) = some (r1, r2, r3) := H
  have A10 := ak A100
  clear A100
  by_cases c11 : t432 = true
  rotate_left
  ·
   replace c11 := Bool.eq_false_iff.mpr c11
   subst c11
   have H1 : (compassref11_Mean.j0 k l1 l2 true a0_0 l0_1) = some (r1, r2, r3) := by rw [if_neg (show ¬ (false = true) by decide)] at H; exact H
   clear H
   have H := H1
   clear H1
   have H' := ak H
   clear H
   have hcz17_0 : w9.cell? ⟨gb429, 0, none⟩ = some (.int .i64 a0_0) := (blk_cell BK429.out 0).trans rfl
   have hcz17_1 : w9.cell? ⟨gb429, 1, none⟩ = some (.slice A0_1 l0_1.length c0_1) := (blk_cell BK429.out 1).trans rfl
   have hfz17_0 := blk_frozen BK429.out 0
   have hfz17_1 := blk_frozen BK429.out 1
   go_wp2_with (first | (go_at_call 45; (with_reducible refine (compassref04_Circle.calls k a0_0 _ _ l0_1 _ _ l1 false _ (Kd.C_below HR0_1.out lb) HC0_1.out (Kd.C_below HR1.out lb) HC1.out A10.out).mono ?_); rintro e w18 ⟨rfl, hb⟩; have n0_ := ak (bo BK429 hb); have n1_ := ak (bl hb); clear BK429; clear HB; have BK429 := n0_; have HB := n1_; clear n0_ n1_; clear hb))
   repeat (go_quiet (first | (go_at_call 45; (with_reducible refine (compassref04_Circle.calls k a0_0 _ _ l0_1 _ _ l1 false _ (Kd.C_below HR0_1.out lb) HC0_1.out (Kd.C_below HR1.out lb) HC1.out A10.out).mono ?_); rintro e w18 ⟨rfl, hb⟩; have n0_ := ak (bo BK429 hb); have n1_ := ak (bl hb); clear BK429; clear HB; have BK429 := n0_; have HB := n1_; clear n0_ n1_; clear hb)); try go_wp2_with (first | (go_at_call 45; (with_reducible refine (compassref04_Circle.calls k a0_0 _ _ l0_1 _ _ l1 false _ (Kd.C_below HR0_1.out lb) HC0_1.out (Kd.C_below HR1.out lb) HC1.out A10.out).mono ?_); rintro e w18 ⟨rfl, hb⟩; have n0_ := ak (bo BK429 hb); have n1_ := ak (bl hb); clear BK429; clear HB; have BK429 := n0_; have HB := n1_; clear n0_ n1_; clear hb)))
   go_meet
   case rel => exact ⟨_, (true), sr, H', ⟨by first | omega | exact Nat.le_refl _⟩, xb BK429, ⟨lb⟩⟩
  subst c11
  have H1 : ((compassref11_Pots.f k a0_0 l0_1 l2).bind fun t433 => (compassref11_Mean.j0 k l1 l2 (!t433) a0_0 l0_1)) = some (r1, r2, r3) := by rw [if_pos rfl] at H; exact H
  clear H
  have H := H1
  clear H1
  replace H := Option.bind_eq_some_iff.mp H
  obtain ⟨t433, A120, H⟩ := H
  replace H : (compassref11_Mean.j0 k l1 l2 (!t433) a0_0 l0_1) = some (r1, r2, r3) := H
  have A12 := ak A120
  clear A120
  have H' := ak H
  clear H
  have hcz13_0 : w9.cell? ⟨gb429, 0, none⟩ = some (.int .i64 a0_0) := (blk_cell BK429.out 0).trans rfl
  have hcz13_1 : w9.cell? ⟨gb429, 1, none⟩ = some (.slice A0_1 l0_1.length c0_1) := (blk_cell BK429.out 1).trans rfl
  have hfz13_0 := blk_frozen BK429.out 0
  have hfz13_1 := blk_frozen BK429.out 1
  go_wp2_with (first | (go_at_call 45; (with_reducible refine (compassref04_Circle.calls k a0_0 _ _ l0_1 _ _ l1 true _ (Kd.C_below HR0_1.out lb) HC0_1.out (Kd.C_below HR1.out lb) HC1.out A10.out).mono ?_); rintro e w14 ⟨rfl, hb⟩; have n0_ := ak (bo BK429 hb); have n1_ := ak (bl hb); clear BK429; clear HB; have BK429 := n0_; have HB := n1_; clear n0_ n1_; clear hb; have hcz15_0 : w14.cell? ⟨gb429, 0, none⟩ = some (.int .i64 a0_0) := (blk_cell BK429.out 0).trans rfl; have hcz15_1 : w14.cell? ⟨gb429, 1, none⟩ = some (.slice A0_1 l0_1.length c0_1) := (blk_cell BK429.out 1).trans rfl; have hfz15_0 := blk_frozen BK429.out 0; have hfz15_1 := blk_frozen BK429.out 1) | (go_at_call 63; (with_reducible refine (compassref11_Pots.calls k a0_0 _ _ l0_1 _ _ l2 t433 _ (Kd.C_below HR0_1.out lb) HC0_1.out (Kd.C_below HR2.out lb) HC2.out A12.out).mono ?_); rintro e w16 ⟨rfl, hb⟩; have n0_ := ak (bo BK429 hb); have n1_ := ak (bl hb); clear BK429; clear HB; have BK429 := n0_; have HB := n1_; clear n0_ n1_; clear hb))
  repeat (go_quiet (first | (go_at_call 45; (with_reducible refine (compassref04_Circle.calls k a0_0 _ _ l0_1 _ _ l1 true _ (Kd.C_below HR0_1.out lb) HC0_1.out (Kd.C_below HR1.out lb) HC1.out A10.out).mono ?_); rintro e w14 ⟨rfl, hb⟩; have n0_ := ak (bo BK429 hb); have n1_ := ak (bl hb); clear BK429; clear HB; have BK429 := n0_; have HB := n1_; clear n0_ n1_; clear hb; have hcz15_0 : w14.cell? ⟨gb429, 0, none⟩ = some (.int .i64 a0_0) := (blk_cell BK429.out 0).trans rfl; have hcz15_1 : w14.cell? ⟨gb429, 1, none⟩ = some (.slice A0_1 l0_1.length c0_1) := (blk_cell BK429.out 1).trans rfl; have hfz15_0 := blk_frozen BK429.out 0; have hfz15_1 := blk_frozen BK429.out 1) | (go_at_call 63; (with_reducible refine (compassref11_Pots.calls k a0_0 _ _ l0_1 _ _ l2 t433 _ (Kd.C_below HR0_1.out lb) HC0_1.out (Kd.C_below HR2.out lb) HC2.out A12.out).mono ?_); rintro e w16 ⟨rfl, hb⟩; have n0_ := ak (bo BK429 hb); have n1_ := ak (bl hb); clear BK429; clear HB; have BK429 := n0_; have HB := n1_; clear n0_ n1_; clear hb)); try go_wp2_with (first | (go_at_call 45; (with_reducible refine (compassref04_Circle.calls k a0_0 _ _ l0_1 _ _ l1 true _ (Kd.C_below HR0_1.out lb) HC0_1.out (Kd.C_below HR1.out lb) HC1.out A10.out).mono ?_); rintro e w14 ⟨rfl, hb⟩; have n0_ := ak (bo BK429 hb); have n1_ := ak (bl hb); clear BK429; clear HB; have BK429 := n0_; have HB := n1_; clear n0_ n1_; clear hb; have hcz15_0 : w14.cell? ⟨gb429, 0, none⟩ = some (.int .i64 a0_0) := (blk_cell BK429.out 0).trans rfl; have hcz15_1 : w14.cell? ⟨gb429, 1, none⟩ = some (.slice A0_1 l0_1.length c0_1) := (blk_cell BK429.out 1).trans rfl; have hfz15_0 := blk_frozen BK429.out 0; have hfz15_1 := blk_frozen BK429.out 1) | (go_at_call 63; (with_reducible refine (compassref11_Pots.calls k a0_0 _ _ l0_1 _ _ l2 t433 _ (Kd.C_below HR0_1.out lb) HC0_1.out (Kd.C_below HR2.out lb) HC2.out A12.out).mono ?_); rintro e w16 ⟨rfl, hb⟩; have n0_ := ak (bo BK429 hb); have n1_ := ak (bl hb); clear BK429; clear HB; have BK429 := n0_; have HB := n1_; clear n0_ n1_; clear hb)))
  go_meet
  case rel => exact ⟨_, (!t433), sr, H', ⟨by first | omega | exact Nat.le_refl _⟩, xb BK429, ⟨lb⟩⟩
 case rest =>
  clear HC6
  try clear c1; try clear c2; try clear p2; try clear c3; try clear c5; try clear c5b0; try clear c5b1; try clear c11; try clear hcz13_0; try clear hcz13_1; try clear hcz15_0; try clear hcz15_1; try clear hcz17_0; try clear hcz17_1; try clear hcz8_0; try clear hcz8_1; try clear hfz13_0; try clear hfz13_1; try clear hfz15_0; try clear hfz15_1; try clear hfz17_0; try clear hfz17_1; try clear hfz8_0; try clear hfz8_1
  obtain ⟨kq, x32_5, rfl, HA, HJ5, BK429, HB⟩ := hcut
  cases kq with
  | zero => exact absurd HA.out (by simp [compassref11_Mean.j0])
  | succ kj5 =>
   have H := HA.out
   clear HA
   simp only [compassref11_Mean.j0] at H
   by_cases c19 : x32_5 = true
   ·
    subst c19
    have H1 : (some (0, 0, 221)) = some (r1, r2, r3) := by rw [if_pos rfl] at H; exact H
    clear H
    have H := H1
    clear H1
    simp only [Option.some.injEq, Prod.mk.injEq] at H
    obtain ⟨rfl, rfl, rfl⟩ := H
    go_wp2
    repeat (go_quiet (fail); try go_wp2)
    go_ret3
    exact ⟨er, lb⟩
   replace c19 := Bool.eq_false_iff.mpr c19
   subst c19
   have H1 : ((compassref08_Cost.f kj5 a0_0 l0_1 l1).bind fun t434 => (compassref11_Mean.l0 kj5 l2 t434 (l1.length : Int) 0 a0_0 l0_1)) = some (r1, r2, r3) := by rw [if_neg (show ¬ (false = true) by decide)] at H; exact H
   clear H
   have H := H1
   clear H1
   replace H := Option.bind_eq_some_iff.mp H
   obtain ⟨t434, A200, H⟩ := H
   replace H : (compassref11_Mean.l0 kj5 l2 t434 (l1.length : Int) 0 a0_0 l0_1) = some (r1, r2, r3) := H
   have A20 := ak A200
   clear A200
   have H' := ak H
   clear H
   have hcz21_0 : wc.cell? ⟨gb429, 0, none⟩ = some (.int .i64 a0_0) := (blk_cell BK429.out 0).trans rfl
   have hcz21_1 : wc.cell? ⟨gb429, 1, none⟩ = some (.slice A0_1 l0_1.length c0_1) := (blk_cell BK429.out 1).trans rfl
   have hfz21_0 := blk_frozen BK429.out 0
   have hfz21_1 := blk_frozen BK429.out 1
   go_wp2_with (first | (go_at_call 47; (with_reducible refine (compassref08_Cost.calls kj5 a0_0 _ _ l0_1 _ _ l1 t434 _ (Kd.C_below HR0_1.out lb) HC0_1.out (Kd.C_below HR1.out lb) HC1.out A20.out).mono ?_); rintro e w22 ⟨rfl, hb⟩; have n0_ := ak (bo BK429 hb); have n1_ := ak (bl hb); clear BK429; clear HB; have BK429 := n0_; have HB := n1_; clear n0_ n1_; clear hb))
   repeat (go_quiet (first | (go_at_call 47; (with_reducible refine (compassref08_Cost.calls kj5 a0_0 _ _ l0_1 _ _ l1 t434 _ (Kd.C_below HR0_1.out lb) HC0_1.out (Kd.C_below HR1.out lb) HC1.out A20.out).mono ?_); rintro e w22 ⟨rfl, hb⟩; have n0_ := ak (bo BK429 hb); have n1_ := ak (bl hb); clear BK429; clear HB; have BK429 := n0_; have HB := n1_; clear n0_ n1_; clear hb)); try go_wp2_with (first | (go_at_call 47; (with_reducible refine (compassref08_Cost.calls kj5 a0_0 _ _ l0_1 _ _ l1 t434 _ (Kd.C_below HR0_1.out lb) HC0_1.out (Kd.C_below HR1.out lb) HC1.out A20.out).mono ?_); rintro e w22 ⟨rfl, hb⟩; have n0_ := ak (bo BK429 hb); have n1_ := ak (bl hb); clear BK429; clear HB; have BK429 := n0_; have HB := n1_; clear n0_ n1_; clear hb)))
   go_loopg [13] kj5 (fun kq v13 w' => ∃ (x13_2 : Int), v13 = .int .i64 x13_2 ∧ Aside0 (compassref11_Mean.l0 kq l2 t434 (l1.length : Int) x13_2 a0_0 l0_1 = some (r1, r2, r3)) ∧ Aside0 (kq ≤ kj5) ∧ Aside0 (w'.heap[gb429]? = some (.cells #[.int .i64 a0_0, (.slice A0_1 l0_1.length c0_1)] 24 (0, 0))) ∧ Aside0 (Below w.heap.size w w'))
   case atStart => exact ⟨(0), sr, H', ⟨Nat.le_refl _⟩, xb BK429, ⟨lb⟩⟩
   clear H'
   try clear c1; try clear c2; try clear p2; try clear c3; try clear c5; try clear c5b0; try clear c5b1; try clear c11; try clear c19; try clear hcz13_0; try clear hcz13_1; try clear hcz15_0; try clear hcz15_1; try clear hcz17_0; try clear hcz17_1; try clear hcz21_0; try clear hcz21_1; try clear hcz8_0; try clear hcz8_1; try clear hfz13_0; try clear hfz13_1; try clear hfz15_0; try clear hfz15_1; try clear hfz17_0; try clear hfz17_1; try clear hfz21_0; try clear hfz21_1; try clear hfz8_0; try clear hfz8_1; try clear p2
   obtain ⟨x13_2, rfl, HA, HK2, BK429, HB⟩ := hrel
   cases gk with
   | zero => exact absurd HA.out (by simp [compassref11_Mean.l0])
   | succ k2 => ?_
   have H := HA.out
   clear HA
   simp only [compassref11_Mean.l0] at H
   by_cases c23 : x13_2 < (l0_1.length : Int)
   rotate_left
   ·
    rw [if_neg c23] at H
    have c23b0 := decide_eq_false c23
    clear c23
    simp only [Option.some.injEq, Prod.mk.injEq] at H
    obtain ⟨rfl, rfl, rfl⟩ := H
    have hcz38_0 : wr.cell? ⟨gb429, 0, none⟩ = some (.int .i64 a0_0) := (blk_cell BK429.out 0).trans rfl
    have hcz38_1 : wr.cell? ⟨gb429, 1, none⟩ = some (.slice A0_1 l0_1.length c0_1) := (blk_cell BK429.out 1).trans rfl
    have hfz38_0 := blk_frozen BK429.out 0
    have hfz38_1 := blk_frozen BK429.out 1
    go_wp2
    repeat (go_quiet (fail); try go_wp2)
    go_ret3
    exact ⟨er, lb⟩
   rw [if_pos c23] at H
   have c23b0 := decide_eq_true c23
   clear c23
   by_cases c24 : 0 ≤ x13_2
   rotate_left
   ·
    rw [if_neg c24] at H
    exact absurd H (by simp)
   rw [if_pos c24] at H
   have c24b0 := decide_eq_true c24
   clear c24
   by_cases c25 : 0 ≤ ((rd_T98 l0_1 x13_2).f0)
   rotate_left
   ·
    rw [if_neg c25] at H
    exact absurd H (by simp)
   rw [if_pos c25] at H
   have c25b0 := decide_eq_true c25
   clear c25
   by_cases c26 : ((rd_T98 l0_1 x13_2).f0) < (l2.length : Int)
   rotate_left
   ·
    rw [if_neg c26] at H
    exact absurd H (by simp)
   rw [if_pos c26] at H
   have c26b0 := decide_eq_true c26
   clear c26
   by_cases c27 : 0 ≤ ((rd_T98 l0_1 x13_2).f1)
   rotate_left
   ·
    rw [if_neg c27] at H
    exact absurd H (by simp)
   rw [if_pos c27] at H
   have c27b0 := decide_eq_true c27
   clear c27
   by_cases c28 : ((rd_T98 l0_1 x13_2).f1) < (l2.length : Int)
   rotate_left
   ·
    rw [if_neg c28] at H
    exact absurd H (by simp)
   rw [if_pos c28] at H
   have c28b0 := decide_eq_true c28
   clear c28
   by_cases c29 : (wrap64 ((wrap64 ((wrap64 ((l1.length : Int) * ((rd_T98 l0_1 x13_2).f3))) - t434)) + (rd l2 ((rd_T98 l0_1 x13_2).f0)))) < (rd l2 ((rd_T98 l0_1 x13_2).f1))
   ·
    rw [if_pos c29] at H
    have c29b0 := decide_eq_true c29
    clear c29
    simp only [Option.some.injEq, Prod.mk.injEq] at H
    obtain ⟨rfl, rfl, rfl⟩ := H
    have hcz30_0 : wr.cell? ⟨gb429, 0, none⟩ = some (.int .i64 a0_0) := (blk_cell BK429.out 0).trans rfl
    have hcz30_1 : wr.cell? ⟨gb429, 1, none⟩ = some (.slice A0_1 l0_1.length c0_1) := (blk_cell BK429.out 1).trans rfl
    have hfz30_0 := blk_frozen BK429.out 0
    have hfz30_1 := blk_frozen BK429.out 1
    have p435 : 0 ≤ (x13_2 : Int) := oda
    have q435 : x13_2 < (l0_1.length : Int) := oda
    obtain ⟨ad435, e435, hx435_0, hx435_1, hx435_2, hx435_3⟩ := at_T98 HR0_1.out x13_2 p435 q435
    cases e435
    (try replace hx435_0 := hbc HB hx435_0)
    (try replace hx435_1 := hbc HB hx435_1)
    (try replace hx435_2 := hbc HB hx435_2)
    (try replace hx435_3 := hbc HB hx435_3)
    replace p435 := eq_true p435
    replace q435 := eq_true q435
    go_wp2_with (first | ((with_reducible refine gate_dst (N := 14) rfl ?_); refine bxe 14 #[.int .i64 0, .int .i64 0, .int .i64 0, .int .i64 0] 98 ?_; intro gb436 hg w31 hbox hb; have n0_ := ak (bo BK429 hb); have n1_ := ak (bl hb); have n2_ := ak (hbox); have n3_ := ak ((by rw [hg]; exact (below_size lb) : w.heap.size ≤ gb436)); have n4_ := ak ((by rw [hg]; exact (below_size lb) : w.heap.size ≤ gb436)); have n5_ := ak ((by rw [hg]; exact Nat.ne_of_lt (blk_lt (g := gb429) (o := .cells #[.int .i64 a0_0, .slice (some ad435) l0_1.length c0_1] 24 (0, 0)) (bx BK429.out)) : gb429 ≠ gb436)); have n6_ := ak ((by rw [hg]; exact Nat.ne_of_gt (blk_lt (g := gb429) (o := .cells #[.int .i64 a0_0, .slice (some ad435) l0_1.length c0_1] 24 (0, 0)) (bx BK429.out)) : gb436 ≠ gb429)); clear BK429; clear HB; have BK429 := n0_; have HB := n1_; have BK436 := n2_; have GW436 := n3_; have GE436 := n4_; have NB429_436 := n5_; have NB436_429 := n6_; clear n0_ n1_ n2_ n3_ n4_ n5_ n6_; clear hb hbox hg; have ⟨_, _⟩ := nn NB436_429; have hcz33_0 : w31.cell? ⟨gb436, 0, none⟩ = some (.int .i64 0) := (blk_cell BK436.out 0).trans rfl; have hcz33_1 : w31.cell? ⟨gb436, 1, none⟩ = some (.int .i64 0) := (blk_cell BK436.out 1).trans rfl; have hcz33_2 : w31.cell? ⟨gb436, 2, none⟩ = some (.int .i64 0) := (blk_cell BK436.out 2).trans rfl; have hcz33_3 : w31.cell? ⟨gb436, 3, none⟩ = some (.int .i64 0) := (blk_cell BK436.out 3).trans rfl; have hfz33_0 := blk_frozen BK436.out 0; have hfz33_1 := blk_frozen BK436.out 1; have hfz33_2 := blk_frozen BK436.out 2; have hfz33_3 := blk_frozen BK436.out 3; obtain ⟨p437, q437, ad437, e437, hx437_0⟩ := wq (Kd.at_int HR2.out ((rd_T98 l0_1 x13_2).f0)); cases e437; have hn437_0 := an hx437_0 GW436; have hn437_1 := an hx437_0 GW436; have hn437_2 := an hx437_0 GW436; have hn437_3 := an hx437_0 GW436; replace hx437_0 := hbc HB hx437_0; replace hx437_0 := cg ⟨gb436, 0, none⟩ (.int .i64 ((rd_T98 l0_1 x13_2).f0)) hx437_0 hn437_0; replace hx437_0 := cg ⟨gb436, 1, none⟩ (.int .i64 ((rd_T98 l0_1 x13_2).f1)) hx437_0 hn437_1; replace hx437_0 := cg ⟨gb436, 2, none⟩ (.int .i64 ((rd_T98 l0_1 x13_2).f2)) hx437_0 hn437_2; replace hx437_0 := cg ⟨gb436, 3, none⟩ (.int .i64 ((rd_T98 l0_1 x13_2).f3)) hx437_0 hn437_3; (try have hy437_0 := fun (n_ : Nat) => (show ((((((w31.drewN n_).setCell ⟨gb436, 0, none⟩ (.int .i64 ((rd_T98 l0_1 x13_2).f0))).setCell ⟨gb436, 1, none⟩ (.int .i64 ((rd_T98 l0_1 x13_2).f1))).setCell ⟨gb436, 2, none⟩ (.int .i64 ((rd_T98 l0_1 x13_2).f2))).setCell ⟨gb436, 3, none⟩ (.int .i64 ((rd_T98 l0_1 x13_2).f3)))).cell? _ = some _ from hx437_0)); clear hn437_0; clear hn437_1; clear hn437_2; clear hn437_3; obtain ⟨p438, q438, ad438, e438, hx438_0⟩ := wq (Kd.at_int HR2.out ((rd_T98 l0_1 x13_2).f1)); obtain rfl : ad437 = ad438 := (by injection e438); have hn438_0 := an hx438_0 GW436; have hn438_1 := an hx438_0 GW436; have hn438_2 := an hx438_0 GW436; have hn438_3 := an hx438_0 GW436; replace hx438_0 := hbc HB hx438_0; replace hx438_0 := cg ⟨gb436, 0, none⟩ (.int .i64 ((rd_T98 l0_1 x13_2).f0)) hx438_0 hn438_0; replace hx438_0 := cg ⟨gb436, 1, none⟩ (.int .i64 ((rd_T98 l0_1 x13_2).f1)) hx438_0 hn438_1; replace hx438_0 := cg ⟨gb436, 2, none⟩ (.int .i64 ((rd_T98 l0_1 x13_2).f2)) hx438_0 hn438_2; replace hx438_0 := cg ⟨gb436, 3, none⟩ (.int .i64 ((rd_T98 l0_1 x13_2).f3)) hx438_0 hn438_3; (try have hy438_0 := fun (n_ : Nat) => (show ((((((w31.drewN n_).setCell ⟨gb436, 0, none⟩ (.int .i64 ((rd_T98 l0_1 x13_2).f0))).setCell ⟨gb436, 1, none⟩ (.int .i64 ((rd_T98 l0_1 x13_2).f1))).setCell ⟨gb436, 2, none⟩ (.int .i64 ((rd_T98 l0_1 x13_2).f2))).setCell ⟨gb436, 3, none⟩ (.int .i64 ((rd_T98 l0_1 x13_2).f3)))).cell? _ = some _ from hx438_0)); clear hn438_0; clear hn438_1; clear hn438_2; clear hn438_3))
    repeat (go_quiet (first | ((with_reducible refine gate_dst (N := 14) rfl ?_); refine bxe 14 #[.int .i64 0, .int .i64 0, .int .i64 0, .int .i64 0] 98 ?_; intro gb436 hg w31 hbox hb; have n0_ := ak (bo BK429 hb); have n1_ := ak (bl hb); have n2_ := ak (hbox); have n3_ := ak ((by rw [hg]; exact (below_size lb) : w.heap.size ≤ gb436)); have n4_ := ak ((by rw [hg]; exact (below_size lb) : w.heap.size ≤ gb436)); have n5_ := ak ((by rw [hg]; exact Nat.ne_of_lt (blk_lt (g := gb429) (o := .cells #[.int .i64 a0_0, .slice (some ad435) l0_1.length c0_1] 24 (0, 0)) (bx BK429.out)) : gb429 ≠ gb436)); have n6_ := ak ((by rw [hg]; exact Nat.ne_of_gt (blk_lt (g := gb429) (o := .cells #[.int .i64 a0_0, .slice (some ad435) l0_1.length c0_1] 24 (0, 0)) (bx BK429.out)) : gb436 ≠ gb429)); clear BK429; clear HB; have BK429 := n0_; have HB := n1_; have BK436 := n2_; have GW436 := n3_; have GE436 := n4_; have NB429_436 := n5_; have NB436_429 := n6_; clear n0_ n1_ n2_ n3_ n4_ n5_ n6_; clear hb hbox hg; have ⟨_, _⟩ := nn NB436_429; have hcz33_0 : w31.cell? ⟨gb436, 0, none⟩ = some (.int .i64 0) := (blk_cell BK436.out 0).trans rfl; have hcz33_1 : w31.cell? ⟨gb436, 1, none⟩ = some (.int .i64 0) := (blk_cell BK436.out 1).trans rfl; have hcz33_2 : w31.cell? ⟨gb436, 2, none⟩ = some (.int .i64 0) := (blk_cell BK436.out 2).trans rfl; have hcz33_3 : w31.cell? ⟨gb436, 3, none⟩ = some (.int .i64 0) := (blk_cell BK436.out 3).trans rfl; have hfz33_0 := blk_frozen BK436.out 0; have hfz33_1 := blk_frozen BK436.out 1; have hfz33_2 := blk_frozen BK436.out 2; have hfz33_3 := blk_frozen BK436.out 3; obtain ⟨p437, q437, ad437, e437, hx437_0⟩ := wq (Kd.at_int HR2.out ((rd_T98 l0_1 x13_2).f0)); cases e437; have hn437_0 := an hx437_0 GW436; have hn437_1 := an hx437_0 GW436; have hn437_2 := an hx437_0 GW436; have hn437_3 := an hx437_0 GW436; replace hx437_0 := hbc HB hx437_0; replace hx437_0 := cg ⟨gb436, 0, none⟩ (.int .i64 ((rd_T98 l0_1 x13_2).f0)) hx437_0 hn437_0; replace hx437_0 := cg ⟨gb436, 1, none⟩ (.int .i64 ((rd_T98 l0_1 x13_2).f1)) hx437_0 hn437_1; replace hx437_0 := cg ⟨gb436, 2, none⟩ (.int .i64 ((rd_T98 l0_1 x13_2).f2)) hx437_0 hn437_2; replace hx437_0 := cg ⟨gb436, 3, none⟩ (.int .i64 ((rd_T98 l0_1 x13_2).f3)) hx437_0 hn437_3; (try have hy437_0 := fun (n_ : Nat) => (show ((((((w31.drewN n_).setCell ⟨gb436, 0, none⟩ (.int .i64 ((rd_T98 l0_1 x13_2).f0))).setCell ⟨gb436, 1, none⟩ (.int .i64 ((rd_T98 l0_1 x13_2).f1))).setCell ⟨gb436, 2, none⟩ (.int .i64 ((rd_T98 l0_1 x13_2).f2))).setCell ⟨gb436, 3, none⟩ (.int .i64 ((rd_T98 l0_1 x13_2).f3)))).cell? _ = some _ from hx437_0)); clear hn437_0; clear hn437_1; clear hn437_2; clear hn437_3; obtain ⟨p438, q438, ad438, e438, hx438_0⟩ := wq (Kd.at_int HR2.out ((rd_T98 l0_1 x13_2).f1)); obtain rfl : ad437 = ad438 := (by injection e438); have hn438_0 := an hx438_0 GW436; have hn438_1 := an hx438_0 GW436; have hn438_2 := an hx438_0 GW436; have hn438_3 := an hx438_0 GW436; replace hx438_0 := hbc HB hx438_0; replace hx438_0 := cg ⟨gb436, 0, none⟩ (.int .i64 ((rd_T98 l0_1 x13_2).f0)) hx438_0 hn438_0; replace hx438_0 := cg ⟨gb436, 1, none⟩ (.int .i64 ((rd_T98 l0_1 x13_2).f1)) hx438_0 hn438_1; replace hx438_0 := cg ⟨gb436, 2, none⟩ (.int .i64 ((rd_T98 l0_1 x13_2).f2)) hx438_0 hn438_2; replace hx438_0 := cg ⟨gb436, 3, none⟩ (.int .i64 ((rd_T98 l0_1 x13_2).f3)) hx438_0 hn438_3; (try have hy438_0 := fun (n_ : Nat) => (show ((((((w31.drewN n_).setCell ⟨gb436, 0, none⟩ (.int .i64 ((rd_T98 l0_1 x13_2).f0))).setCell ⟨gb436, 1, none⟩ (.int .i64 ((rd_T98 l0_1 x13_2).f1))).setCell ⟨gb436, 2, none⟩ (.int .i64 ((rd_T98 l0_1 x13_2).f2))).setCell ⟨gb436, 3, none⟩ (.int .i64 ((rd_T98 l0_1 x13_2).f3)))).cell? _ = some _ from hx438_0)); clear hn438_0; clear hn438_1; clear hn438_2; clear hn438_3)); try go_wp2_with (first | ((with_reducible refine gate_dst (N := 14) rfl ?_); refine bxe 14 #[.int .i64 0, .int .i64 0, .int .i64 0, .int .i64 0] 98 ?_; intro gb436 hg w31 hbox hb; have n0_ := ak (bo BK429 hb); have n1_ := ak (bl hb); have n2_ := ak (hbox); have n3_ := ak ((by rw [hg]; exact (below_size lb) : w.heap.size ≤ gb436)); have n4_ := ak ((by rw [hg]; exact (below_size lb) : w.heap.size ≤ gb436)); have n5_ := ak ((by rw [hg]; exact Nat.ne_of_lt (blk_lt (g := gb429) (o := .cells #[.int .i64 a0_0, .slice (some ad435) l0_1.length c0_1] 24 (0, 0)) (bx BK429.out)) : gb429 ≠ gb436)); have n6_ := ak ((by rw [hg]; exact Nat.ne_of_gt (blk_lt (g := gb429) (o := .cells #[.int .i64 a0_0, .slice (some ad435) l0_1.length c0_1] 24 (0, 0)) (bx BK429.out)) : gb436 ≠ gb429)); clear BK429; clear HB; have BK429 := n0_; have HB := n1_; have BK436 := n2_; have GW436 := n3_; have GE436 := n4_; have NB429_436 := n5_; have NB436_429 := n6_; clear n0_ n1_ n2_ n3_ n4_ n5_ n6_; clear hb hbox hg; have ⟨_, _⟩ := nn NB436_429; have hcz33_0 : w31.cell? ⟨gb436, 0, none⟩ = some (.int .i64 0) := (blk_cell BK436.out 0).trans rfl; have hcz33_1 : w31.cell? ⟨gb436, 1, none⟩ = some (.int .i64 0) := (blk_cell BK436.out 1).trans rfl; have hcz33_2 : w31.cell? ⟨gb436, 2, none⟩ = some (.int .i64 0) := (blk_cell BK436.out 2).trans rfl; have hcz33_3 : w31.cell? ⟨gb436, 3, none⟩ = some (.int .i64 0) := (blk_cell BK436.out 3).trans rfl; have hfz33_0 := blk_frozen BK436.out 0; have hfz33_1 := blk_frozen BK436.out 1; have hfz33_2 := blk_frozen BK436.out 2; have hfz33_3 := blk_frozen BK436.out 3; obtain ⟨p437, q437, ad437, e437, hx437_0⟩ := wq (Kd.at_int HR2.out ((rd_T98 l0_1 x13_2).f0)); cases e437; have hn437_0 := an hx437_0 GW436; have hn437_1 := an hx437_0 GW436; have hn437_2 := an hx437_0 GW436; have hn437_3 := an hx437_0 GW436; replace hx437_0 := hbc HB hx437_0; replace hx437_0 := cg ⟨gb436, 0, none⟩ (.int .i64 ((rd_T98 l0_1 x13_2).f0)) hx437_0 hn437_0; replace hx437_0 := cg ⟨gb436, 1, none⟩ (.int .i64 ((rd_T98 l0_1 x13_2).f1)) hx437_0 hn437_1; replace hx437_0 := cg ⟨gb436, 2, none⟩ (.int .i64 ((rd_T98 l0_1 x13_2).f2)) hx437_0 hn437_2; replace hx437_0 := cg ⟨gb436, 3, none⟩ (.int .i64 ((rd_T98 l0_1 x13_2).f3)) hx437_0 hn437_3; (try have hy437_0 := fun (n_ : Nat) => (show ((((((w31.drewN n_).setCell ⟨gb436, 0, none⟩ (.int .i64 ((rd_T98 l0_1 x13_2).f0))).setCell ⟨gb436, 1, none⟩ (.int .i64 ((rd_T98 l0_1 x13_2).f1))).setCell ⟨gb436, 2, none⟩ (.int .i64 ((rd_T98 l0_1 x13_2).f2))).setCell ⟨gb436, 3, none⟩ (.int .i64 ((rd_T98 l0_1 x13_2).f3)))).cell? _ = some _ from hx437_0)); clear hn437_0; clear hn437_1; clear hn437_2; clear hn437_3; obtain ⟨p438, q438, ad438, e438, hx438_0⟩ := wq (Kd.at_int HR2.out ((rd_T98 l0_1 x13_2).f1)); obtain rfl : ad437 = ad438 := (by injection e438); have hn438_0 := an hx438_0 GW436; have hn438_1 := an hx438_0 GW436; have hn438_2 := an hx438_0 GW436; have hn438_3 := an hx438_0 GW436; replace hx438_0 := hbc HB hx438_0; replace hx438_0 := cg ⟨gb436, 0, none⟩ (.int .i64 ((rd_T98 l0_1 x13_2).f0)) hx438_0 hn438_0; replace hx438_0 := cg ⟨gb436, 1, none⟩ (.int .i64 ((rd_T98 l0_1 x13_2).f1)) hx438_0 hn438_1; replace hx438_0 := cg ⟨gb436, 2, none⟩ (.int .i64 ((rd_T98 l0_1 x13_2).f2)) hx438_0 hn438_2; replace hx438_0 := cg ⟨gb436, 3, none⟩ (.int .i64 ((rd_T98 l0_1 x13_2).f3)) hx438_0 hn438_3; (try have hy438_0 := fun (n_ : Nat) => (show ((((((w31.drewN n_).setCell ⟨gb436, 0, none⟩ (.int .i64 ((rd_T98 l0_1 x13_2).f0))).setCell ⟨gb436, 1, none⟩ (.int .i64 ((rd_T98 l0_1 x13_2).f1))).setCell ⟨gb436, 2, none⟩ (.int .i64 ((rd_T98 l0_1 x13_2).f2))).setCell ⟨gb436, 3, none⟩ (.int .i64 ((rd_T98 l0_1 x13_2).f3)))).cell? _ = some _ from hx438_0)); clear hn438_0; clear hn438_1; clear hn438_2; clear hn438_3)))
    go_ret3
    exact ⟨er, lb⟩
   rw [if_neg c29] at H
   have c29b0 := decide_eq_false c29
   clear c29
   have H' := ak H
   clear H
   have hcz34_0 : wr.cell? ⟨gb429, 0, none⟩ = some (.int .i64 a0_0) := (blk_cell BK429.out 0).trans rfl
   have hcz34_1 : wr.cell? ⟨gb429, 1, none⟩ = some (.slice A0_1 l0_1.length c0_1) := (blk_cell BK429.out 1).trans rfl
   have hfz34_0 := blk_frozen BK429.out 0
   have hfz34_1 := blk_frozen BK429.out 1
   have p435 : 0 ≤ (x13_2 : Int) := oda
   have q435 : x13_2 < (l0_1.length : Int) := oda
   obtain ⟨ad435, e435, hx435_0, hx435_1, hx435_2, hx435_3⟩ := at_T98 HR0_1.out x13_2 p435 q435
   cases e435
   (try replace hx435_0 := hbc HB hx435_0)
   (try replace hx435_1 := hbc HB hx435_1)
   (try replace hx435_2 := hbc HB hx435_2)
   (try replace hx435_3 := hbc HB hx435_3)
   replace p435 := eq_true p435
   replace q435 := eq_true q435
   go_wp2_with (first | ((with_reducible refine gate_dst (N := 14) rfl ?_); refine bxe 14 #[.int .i64 0, .int .i64 0, .int .i64 0, .int .i64 0] 98 ?_; intro gb436 hg w35 hbox hb; have n0_ := ak (bo BK429 hb); have n1_ := ak (bl hb); have n2_ := ak (hbox); have n3_ := ak ((by rw [hg]; exact (below_size lb) : w.heap.size ≤ gb436)); have n4_ := ak ((by rw [hg]; exact (below_size lb) : w.heap.size ≤ gb436)); have n5_ := ak ((by rw [hg]; exact Nat.ne_of_lt (blk_lt (g := gb429) (o := .cells #[.int .i64 a0_0, .slice (some ad435) l0_1.length c0_1] 24 (0, 0)) (bx BK429.out)) : gb429 ≠ gb436)); have n6_ := ak ((by rw [hg]; exact Nat.ne_of_gt (blk_lt (g := gb429) (o := .cells #[.int .i64 a0_0, .slice (some ad435) l0_1.length c0_1] 24 (0, 0)) (bx BK429.out)) : gb436 ≠ gb429)); clear BK429; clear HB; have BK429 := n0_; have HB := n1_; have BK436 := n2_; have GW436 := n3_; have GE436 := n4_; have NB429_436 := n5_; have NB436_429 := n6_; clear n0_ n1_ n2_ n3_ n4_ n5_ n6_; clear hb hbox hg; have ⟨_, _⟩ := nn NB436_429; have hcz37_0 : w35.cell? ⟨gb436, 0, none⟩ = some (.int .i64 0) := (blk_cell BK436.out 0).trans rfl; have hcz37_1 : w35.cell? ⟨gb436, 1, none⟩ = some (.int .i64 0) := (blk_cell BK436.out 1).trans rfl; have hcz37_2 : w35.cell? ⟨gb436, 2, none⟩ = some (.int .i64 0) := (blk_cell BK436.out 2).trans rfl; have hcz37_3 : w35.cell? ⟨gb436, 3, none⟩ = some (.int .i64 0) := (blk_cell BK436.out 3).trans rfl; have hfz37_0 := blk_frozen BK436.out 0; have hfz37_1 := blk_frozen BK436.out 1; have hfz37_2 := blk_frozen BK436.out 2; have hfz37_3 := blk_frozen BK436.out 3; obtain ⟨p437, q437, ad437, e437, hx437_0⟩ := wq (Kd.at_int HR2.out ((rd_T98 l0_1 x13_2).f0)); cases e437; have hn437_0 := an hx437_0 GW436; have hn437_1 := an hx437_0 GW436; have hn437_2 := an hx437_0 GW436; have hn437_3 := an hx437_0 GW436; replace hx437_0 := hbc HB hx437_0; replace hx437_0 := cg ⟨gb436, 0, none⟩ (.int .i64 ((rd_T98 l0_1 x13_2).f0)) hx437_0 hn437_0; replace hx437_0 := cg ⟨gb436, 1, none⟩ (.int .i64 ((rd_T98 l0_1 x13_2).f1)) hx437_0 hn437_1; replace hx437_0 := cg ⟨gb436, 2, none⟩ (.int .i64 ((rd_T98 l0_1 x13_2).f2)) hx437_0 hn437_2; replace hx437_0 := cg ⟨gb436, 3, none⟩ (.int .i64 ((rd_T98 l0_1 x13_2).f3)) hx437_0 hn437_3; (try have hy437_0 := fun (n_ : Nat) => (show ((((((w35.drewN n_).setCell ⟨gb436, 0, none⟩ (.int .i64 ((rd_T98 l0_1 x13_2).f0))).setCell ⟨gb436, 1, none⟩ (.int .i64 ((rd_T98 l0_1 x13_2).f1))).setCell ⟨gb436, 2, none⟩ (.int .i64 ((rd_T98 l0_1 x13_2).f2))).setCell ⟨gb436, 3, none⟩ (.int .i64 ((rd_T98 l0_1 x13_2).f3)))).cell? _ = some _ from hx437_0)); clear hn437_0; clear hn437_1; clear hn437_2; clear hn437_3; obtain ⟨p438, q438, ad438, e438, hx438_0⟩ := wq (Kd.at_int HR2.out ((rd_T98 l0_1 x13_2).f1)); obtain rfl : ad437 = ad438 := (by injection e438); have hn438_0 := an hx438_0 GW436; have hn438_1 := an hx438_0 GW436; have hn438_2 := an hx438_0 GW436; have hn438_3 := an hx438_0 GW436; replace hx438_0 := hbc HB hx438_0; replace hx438_0 := cg ⟨gb436, 0, none⟩ (.int .i64 ((rd_T98 l0_1 x13_2).f0)) hx438_0 hn438_0; replace hx438_0 := cg ⟨gb436, 1, none⟩ (.int .i64 ((rd_T98 l0_1 x13_2).f1)) hx438_0 hn438_1; replace hx438_0 := cg ⟨gb436, 2, none⟩ (.int .i64 ((rd_T98 l0_1 x13_2).f2)) hx438_0 hn438_2; replace hx438_0 := cg ⟨gb436, 3, none⟩ (.int .i64 ((rd_T98 l0_1 x13_2).f3)) hx438_0 hn438_3; (try have hy438_0 := fun (n_ : Nat) => (show ((((((w35.drewN n_).setCell ⟨gb436, 0, none⟩ (.int .i64 ((rd_T98 l0_1 x13_2).f0))).setCell ⟨gb436, 1, none⟩ (.int .i64 ((rd_T98 l0_1 x13_2).f1))).setCell ⟨gb436, 2, none⟩ (.int .i64 ((rd_T98 l0_1 x13_2).f2))).setCell ⟨gb436, 3, none⟩ (.int .i64 ((rd_T98 l0_1 x13_2).f3)))).cell? _ = some _ from hx438_0)); clear hn438_0; clear hn438_1; clear hn438_2; clear hn438_3))
   repeat (go_quiet (first | ((with_reducible refine gate_dst (N := 14) rfl ?_); refine bxe 14 #[.int .i64 0, .int .i64 0, .int .i64 0, .int .i64 0] 98 ?_; intro gb436 hg w35 hbox hb; have n0_ := ak (bo BK429 hb); have n1_ := ak (bl hb); have n2_ := ak (hbox); have n3_ := ak ((by rw [hg]; exact (below_size lb) : w.heap.size ≤ gb436)); have n4_ := ak ((by rw [hg]; exact (below_size lb) : w.heap.size ≤ gb436)); have n5_ := ak ((by rw [hg]; exact Nat.ne_of_lt (blk_lt (g := gb429) (o := .cells #[.int .i64 a0_0, .slice (some ad435) l0_1.length c0_1] 24 (0, 0)) (bx BK429.out)) : gb429 ≠ gb436)); have n6_ := ak ((by rw [hg]; exact Nat.ne_of_gt (blk_lt (g := gb429) (o := .cells #[.int .i64 a0_0, .slice (some ad435) l0_1.length c0_1] 24 (0, 0)) (bx BK429.out)) : gb436 ≠ gb429)); clear BK429; clear HB; have BK429 := n0_; have HB := n1_; have BK436 := n2_; have GW436 := n3_; have GE436 := n4_; have NB429_436 := n5_; have NB436_429 := n6_; clear n0_ n1_ n2_ n3_ n4_ n5_ n6_; clear hb hbox hg; have ⟨_, _⟩ := nn NB436_429; have hcz37_0 : w35.cell? ⟨gb436, 0, none⟩ = some (.int .i64 0) := (blk_cell BK436.out 0).trans rfl; have hcz37_1 : w35.cell? ⟨gb436, 1, none⟩ = some (.int .i64 0) := (blk_cell BK436.out 1).trans rfl; have hcz37_2 : w35.cell? ⟨gb436, 2, none⟩ = some (.int .i64 0) := (blk_cell BK436.out 2).trans rfl; have hcz37_3 : w35.cell? ⟨gb436, 3, none⟩ = some (.int .i64 0) := (blk_cell BK436.out 3).trans rfl; have hfz37_0 := blk_frozen BK436.out 0; have hfz37_1 := blk_frozen BK436.out 1; have hfz37_2 := blk_frozen BK436.out 2; have hfz37_3 := blk_frozen BK436.out 3; obtain ⟨p437, q437, ad437, e437, hx437_0⟩ := wq (Kd.at_int HR2.out ((rd_T98 l0_1 x13_2).f0)); cases e437; have hn437_0 := an hx437_0 GW436; have hn437_1 := an hx437_0 GW436; have hn437_2 := an hx437_0 GW436; have hn437_3 := an hx437_0 GW436; replace hx437_0 := hbc HB hx437_0; replace hx437_0 := cg ⟨gb436, 0, none⟩ (.int .i64 ((rd_T98 l0_1 x13_2).f0)) hx437_0 hn437_0; replace hx437_0 := cg ⟨gb436, 1, none⟩ (.int .i64 ((rd_T98 l0_1 x13_2).f1)) hx437_0 hn437_1; replace hx437_0 := cg ⟨gb436, 2, none⟩ (.int .i64 ((rd_T98 l0_1 x13_2).f2)) hx437_0 hn437_2; replace hx437_0 := cg ⟨gb436, 3, none⟩ (.int .i64 ((rd_T98 l0_1 x13_2).f3)) hx437_0 hn437_3; (try have hy437_0 := fun (n_ : Nat) => (show ((((((w35.drewN n_).setCell ⟨gb436, 0, none⟩ (.int .i64 ((rd_T98 l0_1 x13_2).f0))).setCell ⟨gb436, 1, none⟩ (.int .i64 ((rd_T98 l0_1 x13_2).f1))).setCell ⟨gb436, 2, none⟩ (.int .i64 ((rd_T98 l0_1 x13_2).f2))).setCell ⟨gb436, 3, none⟩ (.int .i64 ((rd_T98 l0_1 x13_2).f3)))).cell? _ = some _ from hx437_0)); clear hn437_0; clear hn437_1; clear hn437_2; clear hn437_3; obtain ⟨p438, q438, ad438, e438, hx438_0⟩ := wq (Kd.at_int HR2.out ((rd_T98 l0_1 x13_2).f1)); obtain rfl : ad437 = ad438 := (by injection e438); have hn438_0 := an hx438_0 GW436; have hn438_1 := an hx438_0 GW436; have hn438_2 := an hx438_0 GW436; have hn438_3 := an hx438_0 GW436; replace hx438_0 := hbc HB hx438_0; replace hx438_0 := cg ⟨gb436, 0, none⟩ (.int .i64 ((rd_T98 l0_1 x13_2).f0)) hx438_0 hn438_0; replace hx438_0 := cg ⟨gb436, 1, none⟩ (.int .i64 ((rd_T98 l0_1 x13_2).f1)) hx438_0 hn438_1; replace hx438_0 := cg ⟨gb436, 2, none⟩ (.int .i64 ((rd_T98 l0_1 x13_2).f2)) hx438_0 hn438_2; replace hx438_0 := cg ⟨gb436, 3, none⟩ (.int .i64 ((rd_T98 l0_1 x13_2).f3)) hx438_0 hn438_3; (try have hy438_0 := fun (n_ : Nat) => (show ((((((w35.drewN n_).setCell ⟨gb436, 0, none⟩ (.int .i64 ((rd_T98 l0_1 x13_2).f0))).setCell ⟨gb436, 1, none⟩ (.int .i64 ((rd_T98 l0_1 x13_2).f1))).setCell ⟨gb436, 2, none⟩ (.int .i64 ((rd_T98 l0_1 x13_2).f2))).setCell ⟨gb436, 3, none⟩ (.int .i64 ((rd_T98 l0_1 x13_2).f3)))).cell? _ = some _ from hx438_0)); clear hn438_0; clear hn438_1; clear hn438_2; clear hn438_3)); try go_wp2_with (first | ((with_reducible refine gate_dst (N := 14) rfl ?_); refine bxe 14 #[.int .i64 0, .int .i64 0, .int .i64 0, .int .i64 0] 98 ?_; intro gb436 hg w35 hbox hb; have n0_ := ak (bo BK429 hb); have n1_ := ak (bl hb); have n2_ := ak (hbox); have n3_ := ak ((by rw [hg]; exact (below_size lb) : w.heap.size ≤ gb436)); have n4_ := ak ((by rw [hg]; exact (below_size lb) : w.heap.size ≤ gb436)); have n5_ := ak ((by rw [hg]; exact Nat.ne_of_lt (blk_lt (g := gb429) (o := .cells #[.int .i64 a0_0, .slice (some ad435) l0_1.length c0_1] 24 (0, 0)) (bx BK429.out)) : gb429 ≠ gb436)); have n6_ := ak ((by rw [hg]; exact Nat.ne_of_gt (blk_lt (g := gb429) (o := .cells #[.int .i64 a0_0, .slice (some ad435) l0_1.length c0_1] 24 (0, 0)) (bx BK429.out)) : gb436 ≠ gb429)); clear BK429; clear HB; have BK429 := n0_; have HB := n1_; have BK436 := n2_; have GW436 := n3_; have GE436 := n4_; have NB429_436 := n5_; have NB436_429 := n6_; clear n0_ n1_ n2_ n3_ n4_ n5_ n6_; clear hb hbox hg; have ⟨_, _⟩ := nn NB436_429; have hcz37_0 : w35.cell? ⟨gb436, 0, none⟩ = some (.int .i64 0) := (blk_cell BK436.out 0).trans rfl; have hcz37_1 : w35.cell? ⟨gb436, 1, none⟩ = some (.int .i64 0) := (blk_cell BK436.out 1).trans rfl; have hcz37_2 : w35.cell? ⟨gb436, 2, none⟩ = some (.int .i64 0) := (blk_cell BK436.out 2).trans rfl; have hcz37_3 : w35.cell? ⟨gb436, 3, none⟩ = some (.int .i64 0) := (blk_cell BK436.out 3).trans rfl; have hfz37_0 := blk_frozen BK436.out 0; have hfz37_1 := blk_frozen BK436.out 1; have hfz37_2 := blk_frozen BK436.out 2; have hfz37_3 := blk_frozen BK436.out 3; obtain ⟨p437, q437, ad437, e437, hx437_0⟩ := wq (Kd.at_int HR2.out ((rd_T98 l0_1 x13_2).f0)); cases e437; have hn437_0 := an hx437_0 GW436; have hn437_1 := an hx437_0 GW436; have hn437_2 := an hx437_0 GW436; have hn437_3 := an hx437_0 GW436; replace hx437_0 := hbc HB hx437_0; replace hx437_0 := cg ⟨gb436, 0, none⟩ (.int .i64 ((rd_T98 l0_1 x13_2).f0)) hx437_0 hn437_0; replace hx437_0 := cg ⟨gb436, 1, none⟩ (.int .i64 ((rd_T98 l0_1 x13_2).f1)) hx437_0 hn437_1; replace hx437_0 := cg ⟨gb436, 2, none⟩ (.int .i64 ((rd_T98 l0_1 x13_2).f2)) hx437_0 hn437_2; replace hx437_0 := cg ⟨gb436, 3, none⟩ (.int .i64 ((rd_T98 l0_1 x13_2).f3)) hx437_0 hn437_3; (try have hy437_0 := fun (n_ : Nat) => (show ((((((w35.drewN n_).setCell ⟨gb436, 0, none⟩ (.int .i64 ((rd_T98 l0_1 x13_2).f0))).setCell ⟨gb436, 1, none⟩ (.int .i64 ((rd_T98 l0_1 x13_2).f1))).setCell ⟨gb436, 2, none⟩ (.int .i64 ((rd_T98 l0_1 x13_2).f2))).setCell ⟨gb436, 3, none⟩ (.int .i64 ((rd_T98 l0_1 x13_2).f3)))).cell? _ = some _ from hx437_0)); clear hn437_0; clear hn437_1; clear hn437_2; clear hn437_3; obtain ⟨p438, q438, ad438, e438, hx438_0⟩ := wq (Kd.at_int HR2.out ((rd_T98 l0_1 x13_2).f1)); obtain rfl : ad437 = ad438 := (by injection e438); have hn438_0 := an hx438_0 GW436; have hn438_1 := an hx438_0 GW436; have hn438_2 := an hx438_0 GW436; have hn438_3 := an hx438_0 GW436; replace hx438_0 := hbc HB hx438_0; replace hx438_0 := cg ⟨gb436, 0, none⟩ (.int .i64 ((rd_T98 l0_1 x13_2).f0)) hx438_0 hn438_0; replace hx438_0 := cg ⟨gb436, 1, none⟩ (.int .i64 ((rd_T98 l0_1 x13_2).f1)) hx438_0 hn438_1; replace hx438_0 := cg ⟨gb436, 2, none⟩ (.int .i64 ((rd_T98 l0_1 x13_2).f2)) hx438_0 hn438_2; replace hx438_0 := cg ⟨gb436, 3, none⟩ (.int .i64 ((rd_T98 l0_1 x13_2).f3)) hx438_0 hn438_3; (try have hy438_0 := fun (n_ : Nat) => (show ((((((w35.drewN n_).setCell ⟨gb436, 0, none⟩ (.int .i64 ((rd_T98 l0_1 x13_2).f0))).setCell ⟨gb436, 1, none⟩ (.int .i64 ((rd_T98 l0_1 x13_2).f1))).setCell ⟨gb436, 2, none⟩ (.int .i64 ((rd_T98 l0_1 x13_2).f2))).setCell ⟨gb436, 3, none⟩ (.int .i64 ((rd_T98 l0_1 x13_2).f3)))).cell? _ = some _ from hx438_0)); clear hn438_0; clear hn438_1; clear hn438_2; clear hn438_3)))
   go_roundg k2
   case measure => have := HJ5.out; have := HK2.out; omega
   case rel => exact ⟨(wrap64 (x13_2 + 1)), sr, H', ⟨by have := HJ5.out; have := HK2.out; omega⟩, ⟨by (with_reducible repeat (first | refine blk_drewN ?_ _ | refine blk_drew ?_ | refine blk_alloc ?_ _)); refine blk_far ?_ NB429_436.out _; (with_reducible repeat (first | refine blk_drewN ?_ _ | refine blk_drew ?_ | refine blk_alloc ?_ _)); refine blk_far ?_ NB429_436.out _; (with_reducible repeat (first | refine blk_drewN ?_ _ | refine blk_drew ?_ | refine blk_alloc ?_ _)); refine blk_far ?_ NB429_436.out _; (with_reducible repeat (first | refine blk_drewN ?_ _ | refine blk_drew ?_ | refine blk_alloc ?_ _)); refine blk_far ?_ NB429_436.out _; exact bx BK429.out⟩, ⟨lb⟩⟩
end Go.Proofs.Ytkdoihcjhccliaa.Q
