-- PRINTED by print.py (a twelfth state) out of the translation. Not trusted: Lean checks it.
import Derived.Test.YtkdoihcjhccliaaQ0
import Derived.Test.YtkdoihcjhccliaaQ23
import Derived.Test.YtkdoihcjhccliaaQ37
namespace Go.Proofs.Ytkdoihcjhccliaa.Q
open Go.RowKit Go.Proofs.YtkdoihcjhccliaaW.PrintWords Go.Proofs.YtkdoihcjhccliaaW.PrintLast Go.Proofs.YtkdoihcjhccliaaW.PrintMore
attribute [local go_sem] max2_int min2_int max_two min_two max_three min_three max_four min_four   -- for this text's walks alone
set_option linter.unusedVariables false
set_option linter.unusedSimpArgs false

/-! ### compassref11_Acyclic: function 40 -/
mutual
def compassref11_Acyclic.l0 : Nat → List Int → Int → Int → List (S98) → Option (Int)
  | 0, _, _, _, _ => none
  | k + 1, x1, x7, x454000, x454001 => if x7 < x454000 then ((compassref11_Place.f k x1 x7).bind fun t456 => (if t456 < 0 then (some 221) else (compassref11_Acyclic.l0 k x1 (wrap64 (x7 + 1)) x454000 x454001))) else (compassref11_Acyclic.l1 k x1 0 x454000 x454001)
def compassref11_Acyclic.l1 : Nat → List Int → Int → Int → List (S98) → Option (Int)
  | 0, _, _, _, _ => none
  | k + 1, x1, x8, x454000, x454001 => if x8 < (x454001.length : Int) then (if 0 ≤ x8 then ((compassref11_Place.f k x1 ((rd_T98 x454001 x8).f0)).bind fun t458 => ((compassref11_Place.f k x1 ((rd_T98 x454001 x8).f1)).bind fun t460 => (if t458 ≥ t460 then (some 221) else (compassref11_Acyclic.l1 k x1 (wrap64 (x8 + 1)) x454000 x454001)))) else (none)) else (some 0)
end
def compassref11_Acyclic.f (k : Nat) (a0_0 : Int) (l0_1 : List (S98)) (l1 : List Int) : Option (Int) := (compassref03_Check.f k a0_0 l0_1).bind fun bt454 => (if bt454.1 = 0 then (if (l1.length : Int) = a0_0 then (compassref11_Acyclic.l0 k l1 0 a0_0 l0_1) else (some 221)) else (some bt454.1))
set_option maxHeartbeats 8000000 in
set_option maxRecDepth 100000 in
theorem compassref11_Acyclic.calls (k : Nat) (a0_0 : Int) (A0_1 : Option Addr) (c0_1 : Nat) (l0_1 : List (S98)) (A1 : Option Addr) (c1 : Nat) (l1 : List Int) (r : Int) (w : World) (hr0_1 : Kd.C k98 w A0_1 l0_1.length l0_1) (hc0_1 : l0_1.length ≤ c0_1) (hr1 : Kd.C (Kd.int .i64) w A1 l1.length l1) (hc1 : l1.length ≤ c1) (h : compassref11_Acyclic.f k a0_0 l0_1 l1 = some r) :
    Calls Try.prog 40 #[.agg #[.int .i64 a0_0, .slice A0_1 l0_1.length c0_1], .slice A1 l1.length c1] w fun e w' => e = .returned (.int .i64 r) ∧ Below w.heap.size w w' := by
 have hu24 := Try.underlying24
 have HR0_1 := ak hr0_1
 have HC0_1 := ak hc0_1
 clear hr0_1 hc0_1
 have HR1 := ak hr1
 have HC1 := ak hc1
 clear hr1 hc1
 have HB := ak (Below.refl w.heap.size w)
 have H : ((compassref03_Check.f k a0_0 l0_1).bind fun bt454 => (if bt454.1 = 0 then (if (l1.length : Int) = a0_0 then (compassref11_Acyclic.l0 k l1 0 a0_0 l0_1) else (some 221)) else (some bt454.1))) = some r := h
 clear h
 replace H := Option.bind_eq_some_iff.mp H
 obtain ⟨⟨t454, t455⟩, A30, H⟩ := H
 replace H : (if t454 = 0 then (if (l1.length : Int) = a0_0 then (compassref11_Acyclic.l0 k l1 0 a0_0 l0_1) else (some 221)) else (some t454)) = some r := H
 have A3 := ak A30
 clear A30
 by_cases c4 : t454 = 0
 rotate_left
 ·
  rw [if_neg c4] at H
  have c4b0 := bn c4
  have c4b1 : (t454 != 0) = true := bne_iff_ne.mpr c4
  obtain rfl := Option.some.inj H
  go_enter Try.func40, Try.ntmps40
  go_wp2_with (first | ((with_reducible refine gate_dst (N := 2) rfl ?_); refine bxe 2 #[.int .i64 a0_0, .slice A0_1 l0_1.length c0_1] 24 ?_; intro gb453 hg w28 hbox hb; have n0_ := ak (bl hb); have n1_ := ak (hbox); have n2_ := ak ((by rw [hg]; exact (below_size lb) : w.heap.size ≤ gb453)); have n3_ := ak ((by rw [hg]; exact (below_size lb) : w.heap.size ≤ gb453)); clear HB; have HB := n0_; have BK453 := n1_; have GW453 := n2_; have GE453 := n3_; clear n0_ n1_ n2_ n3_; clear hb hbox hg; have hcz29_0 : w28.cell? ⟨gb453, 0, none⟩ = some (.int .i64 a0_0) := (blk_cell BK453.out 0).trans rfl; have hcz29_1 : w28.cell? ⟨gb453, 1, none⟩ = some (.slice A0_1 l0_1.length c0_1) := (blk_cell BK453.out 1).trans rfl; have hfz29_0 := blk_frozen BK453.out 0; have hfz29_1 := blk_frozen BK453.out 1) | (go_at_call 44; (with_reducible refine (compassref03_Check.calls k a0_0 _ _ l0_1 t454 t455 _ (Kd.C_below HR0_1.out lb) HC0_1.out A3.out).mono ?_); rintro e w30 ⟨rfl, hb⟩; have n0_ := ak (bo BK453 hb); have n1_ := ak (bl hb); clear BK453; clear HB; have BK453 := n0_; have HB := n1_; clear n0_ n1_; clear hb))
  repeat (go_quiet (first | ((with_reducible refine gate_dst (N := 2) rfl ?_); refine bxe 2 #[.int .i64 a0_0, .slice A0_1 l0_1.length c0_1] 24 ?_; intro gb453 hg w28 hbox hb; have n0_ := ak (bl hb); have n1_ := ak (hbox); have n2_ := ak ((by rw [hg]; exact (below_size lb) : w.heap.size ≤ gb453)); have n3_ := ak ((by rw [hg]; exact (below_size lb) : w.heap.size ≤ gb453)); clear HB; have HB := n0_; have BK453 := n1_; have GW453 := n2_; have GE453 := n3_; clear n0_ n1_ n2_ n3_; clear hb hbox hg; have hcz29_0 : w28.cell? ⟨gb453, 0, none⟩ = some (.int .i64 a0_0) := (blk_cell BK453.out 0).trans rfl; have hcz29_1 : w28.cell? ⟨gb453, 1, none⟩ = some (.slice A0_1 l0_1.length c0_1) := (blk_cell BK453.out 1).trans rfl; have hfz29_0 := blk_frozen BK453.out 0; have hfz29_1 := blk_frozen BK453.out 1) | (go_at_call 44; (with_reducible refine (compassref03_Check.calls k a0_0 _ _ l0_1 t454 t455 _ (Kd.C_below HR0_1.out lb) HC0_1.out A3.out).mono ?_); rintro e w30 ⟨rfl, hb⟩; have n0_ := ak (bo BK453 hb); have n1_ := ak (bl hb); clear BK453; clear HB; have BK453 := n0_; have HB := n1_; clear n0_ n1_; clear hb)); try go_wp2_with (first | ((with_reducible refine gate_dst (N := 2) rfl ?_); refine bxe 2 #[.int .i64 a0_0, .slice A0_1 l0_1.length c0_1] 24 ?_; intro gb453 hg w28 hbox hb; have n0_ := ak (bl hb); have n1_ := ak (hbox); have n2_ := ak ((by rw [hg]; exact (below_size lb) : w.heap.size ≤ gb453)); have n3_ := ak ((by rw [hg]; exact (below_size lb) : w.heap.size ≤ gb453)); clear HB; have HB := n0_; have BK453 := n1_; have GW453 := n2_; have GE453 := n3_; clear n0_ n1_ n2_ n3_; clear hb hbox hg; have hcz29_0 : w28.cell? ⟨gb453, 0, none⟩ = some (.int .i64 a0_0) := (blk_cell BK453.out 0).trans rfl; have hcz29_1 : w28.cell? ⟨gb453, 1, none⟩ = some (.slice A0_1 l0_1.length c0_1) := (blk_cell BK453.out 1).trans rfl; have hfz29_0 := blk_frozen BK453.out 0; have hfz29_1 := blk_frozen BK453.out 1) | (go_at_call 44; (with_reducible refine (compassref03_Check.calls k a0_0 _ _ l0_1 t454 t455 _ (Kd.C_below HR0_1.out lb) HC0_1.out A3.out).mono ?_); rintro e w30 ⟨rfl, hb⟩; have n0_ := ak (bo BK453 hb); have n1_ := ak (bl hb); clear BK453; clear HB; have BK453 := n0_; have HB := n1_; clear n0_ n1_; clear hb)))
  go_ret
  exact ⟨er, lb⟩

 rw [if_pos c4] at H
 have c4b0 := be c4
 have c4b1 : (t454 != 0) = false := bne_eq_false_iff_eq.mpr c4
 clear c4
 by_cases c5 : (l1.length : Int) = a0_0
 rotate_left
 ·
  rw [if_neg c5] at H
  have c5b0 := bn c5
  have c5b1 : ((l1.length : Int) != a0_0) = true := bne_iff_ne.mpr c5
  obtain rfl := Option.some.inj H
  go_enter Try.func40, Try.ntmps40
  go_wp2_with (first | ((with_reducible refine gate_dst (N := 2) rfl ?_); refine bxe 2 #[.int .i64 a0_0, .slice A0_1 l0_1.length c0_1] 24 ?_; intro gb453 hg w24 hbox hb; have n0_ := ak (bl hb); have n1_ := ak (hbox); have n2_ := ak ((by rw [hg]; exact (below_size lb) : w.heap.size ≤ gb453)); have n3_ := ak ((by rw [hg]; exact (below_size lb) : w.heap.size ≤ gb453)); clear HB; have HB := n0_; have BK453 := n1_; have GW453 := n2_; have GE453 := n3_; clear n0_ n1_ n2_ n3_; clear hb hbox hg; have hcz25_0 : w24.cell? ⟨gb453, 0, none⟩ = some (.int .i64 a0_0) := (blk_cell BK453.out 0).trans rfl; have hcz25_1 : w24.cell? ⟨gb453, 1, none⟩ = some (.slice A0_1 l0_1.length c0_1) := (blk_cell BK453.out 1).trans rfl; have hfz25_0 := blk_frozen BK453.out 0; have hfz25_1 := blk_frozen BK453.out 1) | (go_at_call 44; (with_reducible refine (compassref03_Check.calls k a0_0 _ _ l0_1 t454 t455 _ (Kd.C_below HR0_1.out lb) HC0_1.out A3.out).mono ?_); rintro e w26 ⟨rfl, hb⟩; have n0_ := ak (bo BK453 hb); have n1_ := ak (bl hb); clear BK453; clear HB; have BK453 := n0_; have HB := n1_; clear n0_ n1_; clear hb; have hcz27_0 : w26.cell? ⟨gb453, 0, none⟩ = some (.int .i64 a0_0) := (blk_cell BK453.out 0).trans rfl; have hcz27_1 : w26.cell? ⟨gb453, 1, none⟩ = some (.slice A0_1 l0_1.length c0_1) := (blk_cell BK453.out 1).trans rfl; have hfz27_0 := blk_frozen BK453.out 0; have hfz27_1 := blk_frozen BK453.out 1))
  repeat (go_quiet (first | ((with_reducible refine gate_dst (N := 2) rfl ?_); refine bxe 2 #[.int .i64 a0_0, .slice A0_1 l0_1.length c0_1] 24 ?_; intro gb453 hg w24 hbox hb; have n0_ := ak (bl hb); have n1_ := ak (hbox); have n2_ := ak ((by rw [hg]; exact (below_size lb) : w.heap.size ≤ gb453)); have n3_ := ak ((by rw [hg]; exact (below_size lb) : w.heap.size ≤ gb453)); clear HB; have HB := n0_; have BK453 := n1_; have GW453 := n2_; have GE453 := n3_; clear n0_ n1_ n2_ n3_; clear hb hbox hg; have hcz25_0 : w24.cell? ⟨gb453, 0, none⟩ = some (.int .i64 a0_0) := (blk_cell BK453.out 0).trans rfl; have hcz25_1 : w24.cell? ⟨gb453, 1, none⟩ = some (.slice A0_1 l0_1.length c0_1) := (blk_cell BK453.out 1).trans rfl; have hfz25_0 := blk_frozen BK453.out 0; have hfz25_1 := blk_frozen BK453.out 1) | (go_at_call 44; (with_reducible refine (compassref03_Check.calls k a0_0 _ _ l0_1 t454 t455 _ (Kd.C_below HR0_1.out lb) HC0_1.out A3.out).mono ?_); rintro e w26 ⟨rfl, hb⟩; have n0_ := ak (bo BK453 hb); have n1_ := ak (bl hb); clear BK453; clear HB; have BK453 := n0_; have HB := n1_; clear n0_ n1_; clear hb; have hcz27_0 : w26.cell? ⟨gb453, 0, none⟩ = some (.int .i64 a0_0) := (blk_cell BK453.out 0).trans rfl; have hcz27_1 : w26.cell? ⟨gb453, 1, none⟩ = some (.slice A0_1 l0_1.length c0_1) := (blk_cell BK453.out 1).trans rfl; have hfz27_0 := blk_frozen BK453.out 0; have hfz27_1 := blk_frozen BK453.out 1)); try go_wp2_with (first | ((with_reducible refine gate_dst (N := 2) rfl ?_); refine bxe 2 #[.int .i64 a0_0, .slice A0_1 l0_1.length c0_1] 24 ?_; intro gb453 hg w24 hbox hb; have n0_ := ak (bl hb); have n1_ := ak (hbox); have n2_ := ak ((by rw [hg]; exact (below_size lb) : w.heap.size ≤ gb453)); have n3_ := ak ((by rw [hg]; exact (below_size lb) : w.heap.size ≤ gb453)); clear HB; have HB := n0_; have BK453 := n1_; have GW453 := n2_; have GE453 := n3_; clear n0_ n1_ n2_ n3_; clear hb hbox hg; have hcz25_0 : w24.cell? ⟨gb453, 0, none⟩ = some (.int .i64 a0_0) := (blk_cell BK453.out 0).trans rfl; have hcz25_1 : w24.cell? ⟨gb453, 1, none⟩ = some (.slice A0_1 l0_1.length c0_1) := (blk_cell BK453.out 1).trans rfl; have hfz25_0 := blk_frozen BK453.out 0; have hfz25_1 := blk_frozen BK453.out 1) | (go_at_call 44; (with_reducible refine (compassref03_Check.calls k a0_0 _ _ l0_1 t454 t455 _ (Kd.C_below HR0_1.out lb) HC0_1.out A3.out).mono ?_); rintro e w26 ⟨rfl, hb⟩; have n0_ := ak (bo BK453 hb); have n1_ := ak (bl hb); clear BK453; clear HB; have BK453 := n0_; have HB := n1_; clear n0_ n1_; clear hb; have hcz27_0 : w26.cell? ⟨gb453, 0, none⟩ = some (.int .i64 a0_0) := (blk_cell BK453.out 0).trans rfl; have hcz27_1 : w26.cell? ⟨gb453, 1, none⟩ = some (.slice A0_1 l0_1.length c0_1) := (blk_cell BK453.out 1).trans rfl; have hfz27_0 := blk_frozen BK453.out 0; have hfz27_1 := blk_frozen BK453.out 1)))
  go_ret
  exact ⟨er, lb⟩
 rw [if_pos c5] at H
 have c5b0 := be c5
 have c5b1 : ((l1.length : Int) != a0_0) = false := bne_eq_false_iff_eq.mpr c5
 clear c5
 have H' := ak H
 clear H
 go_enter Try.func40, Try.ntmps40
 go_wp2_with (first | ((with_reducible refine gate_dst (N := 2) rfl ?_); refine bxe 2 #[.int .i64 a0_0, .slice A0_1 l0_1.length c0_1] 24 ?_; intro gb453 hg w6 hbox hb; have n0_ := ak (bl hb); have n1_ := ak (hbox); have n2_ := ak ((by rw [hg]; exact (below_size lb) : w.heap.size ≤ gb453)); have n3_ := ak ((by rw [hg]; exact (below_size lb) : w.heap.size ≤ gb453)); clear HB; have HB := n0_; have BK453 := n1_; have GW453 := n2_; have GE453 := n3_; clear n0_ n1_ n2_ n3_; clear hb hbox hg; have hcz7_0 : w6.cell? ⟨gb453, 0, none⟩ = some (.int .i64 a0_0) := (blk_cell BK453.out 0).trans rfl; have hcz7_1 : w6.cell? ⟨gb453, 1, none⟩ = some (.slice A0_1 l0_1.length c0_1) := (blk_cell BK453.out 1).trans rfl; have hfz7_0 := blk_frozen BK453.out 0; have hfz7_1 := blk_frozen BK453.out 1) | (go_at_call 44; (with_reducible refine (compassref03_Check.calls k a0_0 _ _ l0_1 t454 t455 _ (Kd.C_below HR0_1.out lb) HC0_1.out A3.out).mono ?_); rintro e w8 ⟨rfl, hb⟩; have n0_ := ak (bo BK453 hb); have n1_ := ak (bl hb); clear BK453; clear HB; have BK453 := n0_; have HB := n1_; clear n0_ n1_; clear hb; have hcz9_0 : w8.cell? ⟨gb453, 0, none⟩ = some (.int .i64 a0_0) := (blk_cell BK453.out 0).trans rfl; have hcz9_1 : w8.cell? ⟨gb453, 1, none⟩ = some (.slice A0_1 l0_1.length c0_1) := (blk_cell BK453.out 1).trans rfl; have hfz9_0 := blk_frozen BK453.out 0; have hfz9_1 := blk_frozen BK453.out 1))
 repeat (go_quiet (first | ((with_reducible refine gate_dst (N := 2) rfl ?_); refine bxe 2 #[.int .i64 a0_0, .slice A0_1 l0_1.length c0_1] 24 ?_; intro gb453 hg w6 hbox hb; have n0_ := ak (bl hb); have n1_ := ak (hbox); have n2_ := ak ((by rw [hg]; exact (below_size lb) : w.heap.size ≤ gb453)); have n3_ := ak ((by rw [hg]; exact (below_size lb) : w.heap.size ≤ gb453)); clear HB; have HB := n0_; have BK453 := n1_; have GW453 := n2_; have GE453 := n3_; clear n0_ n1_ n2_ n3_; clear hb hbox hg; have hcz7_0 : w6.cell? ⟨gb453, 0, none⟩ = some (.int .i64 a0_0) := (blk_cell BK453.out 0).trans rfl; have hcz7_1 : w6.cell? ⟨gb453, 1, none⟩ = some (.slice A0_1 l0_1.length c0_1) := (blk_cell BK453.out 1).trans rfl; have hfz7_0 := blk_frozen BK453.out 0; have hfz7_1 := blk_frozen BK453.out 1) | (go_at_call 44; (with_reducible refine (compassref03_Check.calls k a0_0 _ _ l0_1 t454 t455 _ (Kd.C_below HR0_1.out lb) HC0_1.out A3.out).mono ?_); rintro e w8 ⟨rfl, hb⟩; have n0_ := ak (bo BK453 hb); have n1_ := ak (bl hb); clear BK453; clear HB; have BK453 := n0_; have HB := n1_; clear n0_ n1_; clear hb; have hcz9_0 : w8.cell? ⟨gb453, 0, none⟩ = some (.int .i64 a0_0) := (blk_cell BK453.out 0).trans rfl; have hcz9_1 : w8.cell? ⟨gb453, 1, none⟩ = some (.slice A0_1 l0_1.length c0_1) := (blk_cell BK453.out 1).trans rfl; have hfz9_0 := blk_frozen BK453.out 0; have hfz9_1 := blk_frozen BK453.out 1)); try go_wp2_with (first | ((with_reducible refine gate_dst (N := 2) rfl ?_); refine bxe 2 #[.int .i64 a0_0, .slice A0_1 l0_1.length c0_1] 24 ?_; intro gb453 hg w6 hbox hb; have n0_ := ak (bl hb); have n1_ := ak (hbox); have n2_ := ak ((by rw [hg]; exact (below_size lb) : w.heap.size ≤ gb453)); have n3_ := ak ((by rw [hg]; exact (below_size lb) : w.heap.size ≤ gb453)); clear HB; have HB := n0_; have BK453 := n1_; have GW453 := n2_; have GE453 := n3_; clear n0_ n1_ n2_ n3_; clear hb hbox hg; have hcz7_0 : w6.cell? ⟨gb453, 0, none⟩ = some (.int .i64 a0_0) := (blk_cell BK453.out 0).trans rfl; have hcz7_1 : w6.cell? ⟨gb453, 1, none⟩ = some (.slice A0_1 l0_1.length c0_1) := (blk_cell BK453.out 1).trans rfl; have hfz7_0 := blk_frozen BK453.out 0; have hfz7_1 := blk_frozen BK453.out 1) | (go_at_call 44; (with_reducible refine (compassref03_Check.calls k a0_0 _ _ l0_1 t454 t455 _ (Kd.C_below HR0_1.out lb) HC0_1.out A3.out).mono ?_); rintro e w8 ⟨rfl, hb⟩; have n0_ := ak (bo BK453 hb); have n1_ := ak (bl hb); clear BK453; clear HB; have BK453 := n0_; have HB := n1_; clear n0_ n1_; clear hb; have hcz9_0 : w8.cell? ⟨gb453, 0, none⟩ = some (.int .i64 a0_0) := (blk_cell BK453.out 0).trans rfl; have hcz9_1 : w8.cell? ⟨gb453, 1, none⟩ = some (.slice A0_1 l0_1.length c0_1) := (blk_cell BK453.out 1).trans rfl; have hfz9_0 := blk_frozen BK453.out 0; have hfz9_1 := blk_frozen BK453.out 1)))
 go_loopg [7] k (fun kq v7 w' => ∃ (x7_1 : Int), v7 = .int .i64 x7_1 ∧ Aside0 (compassref11_Acyclic.l0 kq l1 x7_1 a0_0 l0_1 = some r) ∧ Aside0 (kq ≤ k) ∧ Aside0 (w'.heap[gb453]? = some (.cells #[.int .i64 a0_0, (.slice A0_1 l0_1.length c0_1)] 24 (0, 0))) ∧ Aside0 (Below w.heap.size w w'))
 case atStart => exact ⟨(0), sr, H', ⟨Nat.le_refl _⟩, xb BK453, ⟨lb⟩⟩
 clear H'
 try clear c1; try clear p2; try clear c4; try clear c4b0; try clear c4b1; try clear c5; try clear c5b0; try clear c5b1; try clear hcz7_0; try clear hcz7_1; try clear hcz9_0; try clear hcz9_1; try clear hfz7_0; try clear hfz7_1; try clear hfz9_0; try clear hfz9_1
 obtain ⟨x7_1, rfl, HA, HK1, BK453, HB⟩ := hrel
 cases gk with
 | zero => exact absurd HA.out (by simp [compassref11_Acyclic.l0])
 | succ k1 => ?_
 have H := HA.out
 clear HA
 simp only [compassref11_Acyclic.l0] at H
 by_cases c10 : x7_1 < a0_0
 ·
  rw [if_pos c10] at H
  have c10b0 := decide_eq_true c10
  clear c10
  replace H := Option.bind_eq_some_iff.mp H
  obtain ⟨t456, A110, H⟩ := H
  replace H : (if t456 < 0 then (some 221) else (compassref11_Acyclic.l0 k1 l1 (wrap64 (x7_1 + 1)) a0_0 l0_1)) = some r := H
  have A11 := ak A110
  clear A110
  by_cases c12 : t456 < 0
  ·
   rw [if_pos c12] at H
   have c12b0 := decide_eq_true c12
   clear c12
   obtain rfl := Option.some.inj H
   have hcz13_0 : wr.cell? ⟨gb453, 0, none⟩ = some (.int .i64 a0_0) := (blk_cell BK453.out 0).trans rfl
   have hcz13_1 : wr.cell? ⟨gb453, 1, none⟩ = some (.slice A0_1 l0_1.length c0_1) := (blk_cell BK453.out 1).trans rfl
   have hfz13_0 := blk_frozen BK453.out 0
   have hfz13_1 := blk_frozen BK453.out 1
   go_wp2_with (first | (go_at_call 79; (with_reducible refine (compassref11_Place.calls k1 _ _ l1 x7_1 t456 _ (Kd.C_below HR1.out lb) HC1.out A11.out).mono ?_); rintro e w' ⟨rfl, ⟨nd, rfl⟩⟩; (try first | exact ⟨rfl, _, World.drewN_drewN _ _ _⟩ | exact ⟨rfl, _, Eq.trans (World.drewN_drewN _ _ _) (congrArg (World.drewN _) (Nat.add_assoc _ _ _))⟩)))
   repeat (go_quiet (first | (go_at_call 79; (with_reducible refine (compassref11_Place.calls k1 _ _ l1 x7_1 t456 _ (Kd.C_below HR1.out lb) HC1.out A11.out).mono ?_); rintro e w' ⟨rfl, ⟨nd, rfl⟩⟩; (try first | exact ⟨rfl, _, World.drewN_drewN _ _ _⟩ | exact ⟨rfl, _, Eq.trans (World.drewN_drewN _ _ _) (congrArg (World.drewN _) (Nat.add_assoc _ _ _))⟩))); try go_wp2_with (first | (go_at_call 79; (with_reducible refine (compassref11_Place.calls k1 _ _ l1 x7_1 t456 _ (Kd.C_below HR1.out lb) HC1.out A11.out).mono ?_); rintro e w' ⟨rfl, ⟨nd, rfl⟩⟩; (try first | exact ⟨rfl, _, World.drewN_drewN _ _ _⟩ | exact ⟨rfl, _, Eq.trans (World.drewN_drewN _ _ _) (congrArg (World.drewN _) (Nat.add_assoc _ _ _))⟩))))
   go_ret
   exact ⟨er, lb⟩
  rw [if_neg c12] at H
  have c12b0 := decide_eq_false c12
  clear c12
  have H' := ak H
  clear H
  have hcz14_0 : wr.cell? ⟨gb453, 0, none⟩ = some (.int .i64 a0_0) := (blk_cell BK453.out 0).trans rfl
  have hcz14_1 : wr.cell? ⟨gb453, 1, none⟩ = some (.slice A0_1 l0_1.length c0_1) := (blk_cell BK453.out 1).trans rfl
  have hfz14_0 := blk_frozen BK453.out 0
  have hfz14_1 := blk_frozen BK453.out 1
  go_wp2_with (first | (go_at_call 79; (with_reducible refine (compassref11_Place.calls k1 _ _ l1 x7_1 t456 _ (Kd.C_below HR1.out lb) HC1.out A11.out).mono ?_); rintro e w' ⟨rfl, ⟨nd, rfl⟩⟩; (try first | exact ⟨rfl, _, World.drewN_drewN _ _ _⟩ | exact ⟨rfl, _, Eq.trans (World.drewN_drewN _ _ _) (congrArg (World.drewN _) (Nat.add_assoc _ _ _))⟩)))
  repeat (go_quiet (first | (go_at_call 79; (with_reducible refine (compassref11_Place.calls k1 _ _ l1 x7_1 t456 _ (Kd.C_below HR1.out lb) HC1.out A11.out).mono ?_); rintro e w' ⟨rfl, ⟨nd, rfl⟩⟩; (try first | exact ⟨rfl, _, World.drewN_drewN _ _ _⟩ | exact ⟨rfl, _, Eq.trans (World.drewN_drewN _ _ _) (congrArg (World.drewN _) (Nat.add_assoc _ _ _))⟩))); try go_wp2_with (first | (go_at_call 79; (with_reducible refine (compassref11_Place.calls k1 _ _ l1 x7_1 t456 _ (Kd.C_below HR1.out lb) HC1.out A11.out).mono ?_); rintro e w' ⟨rfl, ⟨nd, rfl⟩⟩; (try first | exact ⟨rfl, _, World.drewN_drewN _ _ _⟩ | exact ⟨rfl, _, Eq.trans (World.drewN_drewN _ _ _) (congrArg (World.drewN _) (Nat.add_assoc _ _ _))⟩))))
  go_roundg k1
  case measure => have := HK1.out; omega
  case rel => exact ⟨(wrap64 (x7_1 + 1)), sr, H', ⟨by have := HK1.out; omega⟩, xb BK453, ⟨lb⟩⟩
 rw [if_neg c10] at H
 have c10b0 := decide_eq_false c10
 clear c10
 have H' := ak H
 clear H
 have hcz15_0 : wr.cell? ⟨gb453, 0, none⟩ = some (.int .i64 a0_0) := (blk_cell BK453.out 0).trans rfl
 have hcz15_1 : wr.cell? ⟨gb453, 1, none⟩ = some (.slice A0_1 l0_1.length c0_1) := (blk_cell BK453.out 1).trans rfl
 have hfz15_0 := blk_frozen BK453.out 0
 have hfz15_1 := blk_frozen BK453.out 1
 go_wp2
 repeat (go_quiet (fail); try go_wp2)
 go_loopg [8] k1 (fun kq v8 w' => ∃ (x8_2 : Int), v8 = .int .i64 x8_2 ∧ Aside0 (compassref11_Acyclic.l1 kq l1 x8_2 a0_0 l0_1 = some r) ∧ Aside0 (kq ≤ k1) ∧ Aside0 (w'.heap[gb453]? = some (.cells #[.int .i64 a0_0, (.slice A0_1 l0_1.length c0_1)] 24 (0, 0))) ∧ Aside0 (Below w.heap.size w w'))
 case atStart => exact ⟨(0), sr, H', ⟨Nat.le_refl _⟩, xb BK453, ⟨lb⟩⟩
 clear H'
 try clear c1; try clear p2; try clear c4; try clear c4b0; try clear c4b1; try clear c5; try clear c5b0; try clear c5b1; try clear p6; try clear c10; try clear c10b0; try clear c12; try clear c12b0; try clear hcz13_0; try clear hcz13_1; try clear hcz14_0; try clear hcz14_1; try clear hcz15_0; try clear hcz15_1; try clear hcz7_0; try clear hcz7_1; try clear hcz9_0; try clear hcz9_1; try clear hfz13_0; try clear hfz13_1; try clear hfz14_0; try clear hfz14_1; try clear hfz15_0; try clear hfz15_1; try clear hfz7_0; try clear hfz7_1; try clear hfz9_0; try clear hfz9_1; try clear p2
 obtain ⟨x8_2, rfl, HA, HK2, BK453, HB⟩ := hrel
 cases gk with
 | zero => exact absurd HA.out (by simp [compassref11_Acyclic.l1])
 | succ k2 => ?_
 have H := HA.out
 clear HA
 simp only [compassref11_Acyclic.l1] at H
 by_cases c16 : x8_2 < (l0_1.length : Int)
 rotate_left
 ·
  rw [if_neg c16] at H
  have c16b0 := decide_eq_false c16
  clear c16
  obtain rfl := Option.some.inj H
  have hcz23_0 : wr.cell? ⟨gb453, 0, none⟩ = some (.int .i64 a0_0) := (blk_cell BK453.out 0).trans rfl
  have hcz23_1 : wr.cell? ⟨gb453, 1, none⟩ = some (.slice A0_1 l0_1.length c0_1) := (blk_cell BK453.out 1).trans rfl
  have hfz23_0 := blk_frozen BK453.out 0
  have hfz23_1 := blk_frozen BK453.out 1
  go_wp2
  repeat (go_quiet (fail); try go_wp2)
  go_ret
  exact ⟨er, lb⟩
 rw [if_pos c16] at H
 have c16b0 := decide_eq_true c16
 clear c16
 by_cases c17 : 0 ≤ x8_2
 rotate_left
 ·
  rw [if_neg c17] at H
  exact absurd H (by simp)
 rw [if_pos c17] at H
 have c17b0 := decide_eq_true c17
 clear c17
 replace H := Option.bind_eq_some_iff.mp H
 obtain ⟨t458, A180, H⟩ := H
 replace H : ((compassref11_Place.f k2 l1 ((rd_T98 l0_1 x8_2).f1)).bind fun t460 => (if t458 ≥ t460 then (some 221) else (compassref11_Acyclic.l1 k2 l1 (wrap64 (x8_2 + 1)) a0_0 l0_1))) = some r := H
 have A18 := ak A180
 clear A180
 replace H := Option.bind_eq_some_iff.mp H
 obtain ⟨t460, A190, H⟩ := H
 replace H : (if t458 ≥ t460 then (some 221) else (compassref11_Acyclic.l1 k2 l1 (wrap64 (x8_2 + 1)) a0_0 l0_1)) = some r := H
 have A19 := ak A190
 clear A190
 by_cases c20 : t458 ≥ t460
 ·
  rw [if_pos c20] at H
  have c20b0 := decide_eq_true c20
  clear c20
  obtain rfl := Option.some.inj H
  have hcz21_0 : wr.cell? ⟨gb453, 0, none⟩ = some (.int .i64 a0_0) := (blk_cell BK453.out 0).trans rfl
  have hcz21_1 : wr.cell? ⟨gb453, 1, none⟩ = some (.slice A0_1 l0_1.length c0_1) := (blk_cell BK453.out 1).trans rfl
  have hfz21_0 := blk_frozen BK453.out 0
  have hfz21_1 := blk_frozen BK453.out 1
  have p457 : 0 ≤ (x8_2 : Int) := oda
  have q457 : x8_2 < (l0_1.length : Int) := oda
  obtain ⟨ad457, e457, hx457_0, hx457_1, hx457_2, hx457_3⟩ := at_T98 HR0_1.out x8_2 p457 q457
  cases e457
  (try replace hx457_0 := hbc HB hx457_0)
  (try replace hx457_1 := hbc HB hx457_1)
  (try replace hx457_2 := hbc HB hx457_2)
  (try replace hx457_3 := hbc HB hx457_3)
  replace p457 := eq_true p457
  replace q457 := eq_true q457
  go_wp2_with (first | (go_at_call 79; (with_reducible refine (compassref11_Place.calls k2 _ _ l1 ((rd_T98 l0_1 x8_2).f0) t458 _ (Kd.C_below HR1.out lb) HC1.out A18.out).mono ?_); rintro e w' ⟨rfl, ⟨nd, rfl⟩⟩; (try first | exact ⟨rfl, _, World.drewN_drewN _ _ _⟩ | exact ⟨rfl, _, Eq.trans (World.drewN_drewN _ _ _) (congrArg (World.drewN _) (Nat.add_assoc _ _ _))⟩); obtain ⟨p459, q459, ad459, e459, hx459_0, hx459_1, hx459_2, hx459_3⟩ := wq (at_T98 HR0_1.out x8_2); obtain rfl : ad457 = ad459 := (by injection e459); replace hx459_0 := hbc HB hx459_0; replace hx459_1 := hbc HB hx459_1; replace hx459_2 := hbc HB hx459_2; replace hx459_3 := hbc HB hx459_3) | (go_at_call 79; (with_reducible refine (compassref11_Place.calls k2 _ _ l1 ((rd_T98 l0_1 x8_2).f1) t460 _ (Kd.C_below HR1.out lb) HC1.out A19.out).mono ?_); rintro e w' ⟨rfl, ⟨nd, rfl⟩⟩; (try first | exact ⟨rfl, _, World.drewN_drewN _ _ _⟩ | exact ⟨rfl, _, Eq.trans (World.drewN_drewN _ _ _) (congrArg (World.drewN _) (Nat.add_assoc _ _ _))⟩)))
  repeat (go_quiet (first | (go_at_call 79; (with_reducible refine (compassref11_Place.calls k2 _ _ l1 ((rd_T98 l0_1 x8_2).f0) t458 _ (Kd.C_below HR1.out lb) HC1.out A18.out).mono ?_); rintro e w' ⟨rfl, ⟨nd, rfl⟩⟩; (try first | exact ⟨rfl, _, World.drewN_drewN _ _ _⟩ | exact ⟨rfl, _, Eq.trans (World.drewN_drewN _ _ _) (congrArg (World.drewN _) (Nat.add_assoc _ _ _))⟩); obtain ⟨p459, q459, ad459, e459, hx459_0, hx459_1, hx459_2, hx459_3⟩ := wq (at_T98 HR0_1.out x8_2); obtain rfl : ad457 = ad459 := (by injection e459); replace hx459_0 := hbc HB hx459_0; replace hx459_1 := hbc HB hx459_1; replace hx459_2 := hbc HB hx459_2; replace hx459_3 := hbc HB hx459_3) | (go_at_call 79; (with_reducible refine (compassref11_Place.calls k2 _ _ l1 ((rd_T98 l0_1 x8_2).f1) t460 _ (Kd.C_below HR1.out lb) HC1.out A19.out).mono ?_); rintro e w' ⟨rfl, ⟨nd, rfl⟩⟩; (try first | exact ⟨rfl, _, World.drewN_drewN _ _ _⟩ | exact ⟨rfl, _, Eq.trans (World.drewN_drewN _ _ _) (congrArg (World.drewN _) (Nat.add_assoc _ _ _))⟩))); try go_wp2_with (first | (go_at_call 79; (with_reducible refine (compassref11_Place.calls k2 _ _ l1 ((rd_T98 l0_1 x8_2).f0) t458 _ (Kd.C_below HR1.out lb) HC1.out A18.out).mono ?_); rintro e w' ⟨rfl, ⟨nd, rfl⟩⟩; (try first | exact ⟨rfl, _, World.drewN_drewN _ _ _⟩ | exact ⟨rfl, _, Eq.trans (World.drewN_drewN _ _ _) (congrArg (World.drewN _) (Nat.add_assoc _ _ _))⟩); obtain ⟨p459, q459, ad459, e459, hx459_0, hx459_1, hx459_2, hx459_3⟩ := wq (at_T98 HR0_1.out x8_2); obtain rfl : ad457 = ad459 := (by injection e459); replace hx459_0 := hbc HB hx459_0; replace hx459_1 := hbc HB hx459_1; replace hx459_2 := hbc HB hx459_2; replace hx459_3 := hbc HB hx459_3) | (go_at_call 79; (with_reducible refine (compassref11_Place.calls k2 _ _ l1 ((rd_T98 l0_1 x8_2).f1) t460 _ (Kd.C_below HR1.out lb) HC1.out A19.out).mono ?_); rintro e w' ⟨rfl, ⟨nd, rfl⟩⟩; (try first | exact ⟨rfl, _, World.drewN_drewN _ _ _⟩ | exact ⟨rfl, _, Eq.trans (World.drewN_drewN _ _ _) (congrArg (World.drewN _) (Nat.add_assoc _ _ _))⟩))))
  go_ret
  exact ⟨er, lb⟩
 rw [if_neg c20] at H
 have c20b0 := decide_eq_false c20
 clear c20
 have H' := ak H
 clear H
 have hcz22_0 : wr.cell? ⟨gb453, 0, none⟩ = some (.int .i64 a0_0) := (blk_cell BK453.out 0).trans rfl
 have hcz22_1 : wr.cell? ⟨gb453, 1, none⟩ = some (.slice A0_1 l0_1.length c0_1) := (blk_cell BK453.out 1).trans rfl
 have hfz22_0 := blk_frozen BK453.out 0
 have hfz22_1 := blk_frozen BK453.out 1
 have p457 : 0 ≤ (x8_2 : Int) := oda
 have q457 : x8_2 < (l0_1.length : Int) := oda
 obtain ⟨ad457, e457, hx457_0, hx457_1, hx457_2, hx457_3⟩ := at_T98 HR0_1.out x8_2 p457 q457
 cases e457
 (try replace hx457_0 := hbc HB hx457_0)
 (try replace hx457_1 := hbc HB hx457_1)
 (try replace hx457_2 := hbc HB hx457_2)
 (try replace hx457_3 := hbc HB hx457_3)
 replace p457 := eq_true p457
 replace q457 := eq_true q457
 go_wp2_with (first | (go_at_call 79; (with_reducible refine (compassref11_Place.calls k2 _ _ l1 ((rd_T98 l0_1 x8_2).f0) t458 _ (Kd.C_below HR1.out lb) HC1.out A18.out).mono ?_); rintro e w' ⟨rfl, ⟨nd, rfl⟩⟩; (try first | exact ⟨rfl, _, World.drewN_drewN _ _ _⟩ | exact ⟨rfl, _, Eq.trans (World.drewN_drewN _ _ _) (congrArg (World.drewN _) (Nat.add_assoc _ _ _))⟩); obtain ⟨p459, q459, ad459, e459, hx459_0, hx459_1, hx459_2, hx459_3⟩ := wq (at_T98 HR0_1.out x8_2); obtain rfl : ad457 = ad459 := (by injection e459); replace hx459_0 := hbc HB hx459_0; replace hx459_1 := hbc HB hx459_1; replace hx459_2 := hbc HB hx459_2; replace hx459_3 := hbc HB hx459_3) | (go_at_call 79; (with_reducible refine (compassref11_Place.calls k2 _ _ l1 ((rd_T98 l0_1 x8_2).f1) t460 _ (Kd.C_below HR1.out lb) HC1.out A19.out).mono ?_); rintro e w' ⟨rfl, ⟨nd, rfl⟩⟩; (try first | exact ⟨rfl, _, World.drewN_drewN _ _ _⟩ | exact ⟨rfl, _, Eq.trans (World.drewN_drewN _ _ _) (congrArg (World.drewN _) (Nat.add_assoc _ _ _))⟩)))
 repeat (go_quiet (first | (go_at_call 79; (with_reducible refine (compassref11_Place.calls k2 _ _ l1 ((rd_T98 l0_1 x8_2).f0) t458 _ (Kd.C_below HR1.out lb) HC1.out A18.out).mono ?_); rintro e w' ⟨rfl, ⟨nd, rfl⟩⟩; (try first | exact ⟨rfl, _, World.drewN_drewN _ _ _⟩ | exact ⟨rfl, _, Eq.trans (World.drewN_drewN _ _ _) (congrArg (World.drewN _) (Nat.add_assoc _ _ _))⟩); obtain ⟨p459, q459, ad459, e459, hx459_0, hx459_1, hx459_2, hx459_3⟩ := wq (at_T98 HR0_1.out x8_2); obtain rfl : ad457 = ad459 := (by injection e459); replace hx459_0 := hbc HB hx459_0; replace hx459_1 := hbc HB hx459_1; replace hx459_2 := hbc HB hx459_2; replace hx459_3 := hbc HB hx459_3) | (go_at_call 79; (with_reducible refine (compassref11_Place.calls k2 _ _ l1 ((rd_T98 l0_1 x8_2).f1) t460 _ (Kd.C_below HR1.out lb) HC1.out A19.out).mono ?_); rintro e w' ⟨rfl, ⟨nd, rfl⟩⟩; (try first | exact ⟨rfl, _, World.drewN_drewN _ _ _⟩ | exact ⟨rfl, _, Eq.trans (World.drewN_drewN _ _ _) (congrArg (World.drewN _) (Nat.add_assoc _ _ _))⟩))); try go_wp2_with (first | (go_at_call 79; (with_reducible refine (compassref11_Place.calls k2 _ _ l1 ((rd_T98 l0_1 x8_2).f0) t458 _ (Kd.C_below HR1.out lb) HC1.out A18.out).mono ?_); rintro e w' ⟨rfl, ⟨nd, rfl⟩⟩; (try first | exact ⟨rfl, _, World.drewN_drewN _ _ _⟩ | exact ⟨rfl, _, Eq.trans (World.drewN_drewN _ _ _) (congrArg (World.drewN _) (Nat.add_assoc _ _ _))⟩); obtain ⟨p459, q459, ad459, e459, hx459_0, hx459_1, hx459_2, hx459_3⟩ := wq (at_T98 HR0_1.out x8_2); obtain rfl : ad457 = ad459 := (by injection e459); replace hx459_0 := hbc HB hx459_0; replace hx459_1 := hbc HB hx459_1; replace hx459_2 := hbc HB hx459_2; replace hx459_3 := hbc HB hx459_3) | (go_at_call 79; (with_reducible refine (compassref11_Place.calls k2 _ _ l1 ((rd_T98 l0_1 x8_2).f1) t460 _ (Kd.C_below HR1.out lb) HC1.out A19.out).mono ?_); rintro e w' ⟨rfl, ⟨nd, rfl⟩⟩; (try first | exact ⟨rfl, _, World.drewN_drewN _ _ _⟩ | exact ⟨rfl, _, Eq.trans (World.drewN_drewN _ _ _) (congrArg (World.drewN _) (Nat.add_assoc _ _ _))⟩))))
 go_roundg k2
 case measure => have := HK1.out; have := HK2.out; omega
 case rel => exact ⟨(wrap64 (x8_2 + 1)), sr, H', ⟨by have := HK1.out; have := HK2.out; omega⟩, xb BK453, ⟨lb⟩⟩
end Go.Proofs.Ytkdoihcjhccliaa.Q
