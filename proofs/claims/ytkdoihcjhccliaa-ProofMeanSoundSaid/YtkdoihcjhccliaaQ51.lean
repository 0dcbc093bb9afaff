-- PRINTED by print.py (a twelfth state) out of the translation. Not trusted: Lean checks it.
import Derived.Test.YtkdoihcjhccliaaQ0
namespace Go.Proofs.Ytkdoihcjhccliaa.Q
open Go.RowKit Go.Proofs.YtkdoihcjhccliaaW.PrintWords Go.Proofs.YtkdoihcjhccliaaW.PrintLast Go.Proofs.YtkdoihcjhccliaaW.PrintMore
attribute [local go_sem] max2_int min2_int max_two min_two max_three min_three max_four min_four   -- for this text's walks alone
set_option linter.unusedVariables false
set_option linter.unusedSimpArgs false

attribute [local go_sem high] eqA125
/-! ### safeint_Compare: function 84 -/
def safeint_Compare.j0 : Nat → Bool → Int → Int → Int → Int → Option (Int)
  | 0, _, _, _, _, _ => none
  | k + 1, x5, x572000, x572001, x573000, x573001 => if x5 = true then (some (-1)) else (if (x572000 == x573000 && (x572001 == x573001)) = true then (some 0) else (some 1))
def safeint_Compare.f (k : Nat) (a0_0 : Int) (a0_1 : Int) (a1_0 : Int) (a1_1 : Int) : Option (Int) := if a0_0 < a1_0 then (safeint_Compare.j0 k true a0_0 a0_1 a1_0 a1_1) else (if a0_0 = a1_0 then (safeint_Compare.j0 k (decide (a0_1 < a1_1)) a0_0 a0_1 a1_0 a1_1) else (safeint_Compare.j0 k false a0_0 a0_1 a1_0 a1_1))
set_option maxHeartbeats 8000000 in
set_option maxRecDepth 100000 in
theorem safeint_Compare.calls (k : Nat) (a0_0 : Int) (a0_1 : Int) (a1_0 : Int) (a1_1 : Int) (r : Int) (w : World) (h : safeint_Compare.f k a0_0 a0_1 a1_0 a1_1 = some r) :
    Calls Try.prog 84 #[.agg #[.int .i64 a0_0, .int .u64 a0_1], .agg #[.int .i64 a1_0, .int .u64 a1_1]] w fun e w' => e = .returned (.int .i64 r) ∧ Below w.heap.size w w' := by
 have hu125 := Try.underlying125
 have HB := ak (Below.refl w.heap.size w)
 have H : (if a0_0 < a1_0 then (safeint_Compare.j0 k true a0_0 a0_1 a1_0 a1_1) else (if a0_0 = a1_0 then (safeint_Compare.j0 k (decide (a0_1 < a1_1)) a0_0 a0_1 a1_0 a1_1) else (safeint_Compare.j0 k false a0_0 a0_1 a1_0 a1_1))) = some r := h
 clear h
 have HC3 := ak H
 clear H
 go_enter Try.func84, Try.ntmps84
 go_upto_region 1 with (first | ((with_reducible refine gate_dst (N := 2) rfl ?_); refine bxe 2 #[.int .i64 a0_0, .int .u64 a0_1] 125 ?_; intro gb571 hg w4 hbox hb; have n0_ := ak (bl hb); have n1_ := ak (hbox); have n2_ := ak ((by rw [hg]; exact (below_size lb) : w.heap.size ≤ gb571)); have n3_ := ak ((by rw [hg]; exact (below_size lb) : w.heap.size ≤ gb571)); clear HB; have HB := n0_; have BK571 := n1_; have GW571 := n2_; have GE571 := n3_; clear n0_ n1_ n2_ n3_; clear hb hbox hg) | ((with_reducible refine gate_dst (N := 3) rfl ?_); refine bxe 3 #[.int .i64 a1_0, .int .u64 a1_1] 125 ?_; intro gb572 hg w5 hbox hb; have n0_ := ak (bo BK571 hb); have n1_ := ak (bl hb); have n2_ := ak (hbox); have n3_ := ak ((by rw [hg]; exact (below_size lb) : w.heap.size ≤ gb572)); have n4_ := ak ((by rw [hg]; exact (below_size lb) : w.heap.size ≤ gb572)); have n5_ := ak ((by rw [hg]; exact Nat.ne_of_lt (blk_lt (g := gb571) (o := .cells #[.int .i64 a0_0, .int .u64 a0_1] 125 (0, 0)) (bx BK571.out)) : gb571 ≠ gb572)); have n6_ := ak ((by rw [hg]; exact Nat.ne_of_gt (blk_lt (g := gb571) (o := .cells #[.int .i64 a0_0, .int .u64 a0_1] 125 (0, 0)) (bx BK571.out)) : gb572 ≠ gb571)); clear BK571; clear HB; have BK571 := n0_; have HB := n1_; have BK572 := n2_; have GW572 := n3_; have GE572 := n4_; have NB571_572 := n5_; have NB572_571 := n6_; clear n0_ n1_ n2_ n3_ n4_ n5_ n6_; clear hb hbox hg))
 (try simp only [Act.put, List.setIfInBounds_toArray, List.set_cons_zero, List.set_cons_succ])
 go_cut [5] (fun v5 wc => ∃ (kq : Nat) (x5_2 : Bool), v5 = .bool x5_2 ∧ Aside0 (safeint_Compare.j0 kq x5_2 a0_0 a0_1 a1_0 a1_1 = some r) ∧ Aside0 (kq ≤ k) ∧ Aside0 (wc.heap[gb571]? = some (.cells #[.int .i64 a0_0, .int .u64 a0_1] 125 (0, 0))) ∧ Aside0 (wc.heap[gb572]? = some (.cells #[.int .i64 a1_0, .int .u64 a1_1] 125 (0, 0))) ∧ Aside0 (Below w.heap.size w wc))
 case first =>
  have H := HC3.out
  clear HC3
  by_cases c6 : a0_0 < a1_0
  ·
   rw [if_pos c6] at H
   have c6b0 := decide_eq_true c6
   clear c6
   (first | rw [c6b0] | (simp only [i64_w, i32_w]; rw [c6b0]) | skip)
   have H' := ak H
   clear H
   have hnb7 := NB571_572.out
   have hnc7 := NB572_571.out
   have hcz8_0 : w5.cell? ⟨gb571, 0, none⟩ = some (.int .i64 a0_0) := (blk_cell BK571.out 0).trans rfl
   have hcz8_1 : w5.cell? ⟨gb571, 1, none⟩ = some (.int .u64 a0_1) := (blk_cell BK571.out 1).trans rfl
   have hfz8_0 := blk_frozen BK571.out 0
   have hfz8_1 := blk_frozen BK571.out 1
   have hcz9_0 : w5.cell? ⟨gb572, 0, none⟩ = some (.int .i64 a1_0) := (blk_cell BK572.out 0).trans rfl
   have hcz9_1 : w5.cell? ⟨gb572, 1, none⟩ = some (.int .u64 a1_1) := (blk_cell BK572.out 1).trans rfl
   have hfz9_0 := blk_frozen BK572.out 0
   have hfz9_1 := blk_frozen BK572.out 1
   go_wp2
   go_meet
   case rel => exact ⟨_, (true), sr, H', ⟨by first | omega | exact Nat.le_refl _⟩, xb BK571, xb BK572, ⟨lb⟩⟩
  rw [if_neg c6] at H
  have c6b0 := decide_eq_false c6
  clear c6
  (first | rw [c6b0] | (simp only [i64_w, i32_w]; rw [c6b0]) | skip)
  by_cases c10 : a0_0 = a1_0
  rotate_left
  ·
   rw [if_neg c10] at H
   have c10b0 := bn c10
   have c10b1 : (a0_0 != a1_0) = true := bne_iff_ne.mpr c10
   have H' := ak H
   clear H
   have hnb14 := NB571_572.out
   have hnc14 := NB572_571.out
   have hcz15_0 : w5.cell? ⟨gb571, 0, none⟩ = some (.int .i64 a0_0) := (blk_cell BK571.out 0).trans rfl
   have hcz15_1 : w5.cell? ⟨gb571, 1, none⟩ = some (.int .u64 a0_1) := (blk_cell BK571.out 1).trans rfl
   have hfz15_0 := blk_frozen BK571.out 0
   have hfz15_1 := blk_frozen BK571.out 1
   have hcz16_0 : w5.cell? ⟨gb572, 0, none⟩ = some (.int .i64 a1_0) := (blk_cell BK572.out 0).trans rfl
   have hcz16_1 : w5.cell? ⟨gb572, 1, none⟩ = some (.int .u64 a1_1) := (blk_cell BK572.out 1).trans rfl
   have hfz16_0 := blk_frozen BK572.out 0
   have hfz16_1 := blk_frozen BK572.out 1
   go_wp2
   go_meet
   case rel => exact ⟨_, (false), sr, H', ⟨by first | omega | exact Nat.le_refl _⟩, xb BK571, xb BK572, ⟨lb⟩⟩
  rw [if_pos c10] at H
  have c10b0 := be c10
  have c10b1 : (a0_0 != a1_0) = false := bne_eq_false_iff_eq.mpr c10
  clear c10
  have H' := ak H
  clear H
  have hnb11 := NB571_572.out
  have hnc11 := NB572_571.out
  have hcz12_0 : w5.cell? ⟨gb571, 0, none⟩ = some (.int .i64 a0_0) := (blk_cell BK571.out 0).trans rfl
  have hcz12_1 : w5.cell? ⟨gb571, 1, none⟩ = some (.int .u64 a0_1) := (blk_cell BK571.out 1).trans rfl
  have hfz12_0 := blk_frozen BK571.out 0
  have hfz12_1 := blk_frozen BK571.out 1
  have hcz13_0 : w5.cell? ⟨gb572, 0, none⟩ = some (.int .i64 a1_0) := (blk_cell BK572.out 0).trans rfl
  have hcz13_1 : w5.cell? ⟨gb572, 1, none⟩ = some (.int .u64 a1_1) := (blk_cell BK572.out 1).trans rfl
  have hfz13_0 := blk_frozen BK572.out 0
  have hfz13_1 := blk_frozen BK572.out 1
  go_wp2
  go_meet
  case rel => exact ⟨_, (decide (a0_1 < a1_1)), sr, H', ⟨by first | omega | exact Nat.le_refl _⟩, xb BK571, xb BK572, ⟨lb⟩⟩
 case rest =>
  clear HC3
  try clear c1; try clear p2; try clear c6; try clear c6b0; try clear c7; try clear c8; try clear c10; try clear c10b0; try clear c10b1; try clear c11; try clear c14; try clear hcz12_0; try clear hcz12_1; try clear hcz13_0; try clear hcz13_1; try clear hcz15_0; try clear hcz15_1; try clear hcz16_0; try clear hcz16_1; try clear hcz8_0; try clear hcz8_1; try clear hcz9_0; try clear hcz9_1; try clear hfz12_0; try clear hfz12_1; try clear hfz13_0; try clear hfz13_1; try clear hfz15_0; try clear hfz15_1; try clear hfz16_0; try clear hfz16_1; try clear hfz8_0; try clear hfz8_1; try clear hfz9_0; try clear hfz9_1
  obtain ⟨kq, x5_2, rfl, HA, HJ2, BK571, BK572, HB⟩ := hcut
  cases kq with
  | zero => exact absurd HA.out (by simp [safeint_Compare.j0])
  | succ kj2 =>
   have H := HA.out
   clear HA
   simp only [safeint_Compare.j0] at H
   by_cases c17 : x5_2 = true
   ·
    subst c17
    have H1 : (some (-1)) = some r := by rw [if_pos rfl] at H; exact H
    clear H
    have H := H1
    clear H1
    obtain rfl := Option.some.inj H
    go_wp2
    go_ret
    exact ⟨er, lb⟩
   replace c17 := Bool.eq_false_iff.mpr c17
   subst c17
   have H1 : (if (a0_0 == a1_0 && (a0_1 == a1_1)) = true then (some 0) else (some 1)) = some r := by rw [if_neg (show ¬ (false = true) by decide)] at H; exact H
   clear H
   have H := H1
   clear H1
   by_cases c18 : (a0_0 == a1_0 && (a0_1 == a1_1)) = true
   ·
    rw [if_pos c18] at H
    have c18b0 : (a0_0 == a1_0 && (a0_1 == a1_1)) = true := c18
    (try (have c18b1 : decide (a0_0 = a1_0 && (a0_1 == a1_1)) = true := by simpa using c18))
    (try (have c18b2 : (a0_0 == a1_0 && (a0_1 == a1_1)) = true := by simpa using c18))
    clear c18
    obtain rfl := Option.some.inj H
    have hnb19 := NB571_572.out
    have hnc19 := NB572_571.out
    have hcz20_0 : wc.cell? ⟨gb571, 0, none⟩ = some (.int .i64 a0_0) := (blk_cell BK571.out 0).trans rfl
    have hcz20_1 : wc.cell? ⟨gb571, 1, none⟩ = some (.int .u64 a0_1) := (blk_cell BK571.out 1).trans rfl
    have hfz20_0 := blk_frozen BK571.out 0
    have hfz20_1 := blk_frozen BK571.out 1
    have hcz21_0 : wc.cell? ⟨gb572, 0, none⟩ = some (.int .i64 a1_0) := (blk_cell BK572.out 0).trans rfl
    have hcz21_1 : wc.cell? ⟨gb572, 1, none⟩ = some (.int .u64 a1_1) := (blk_cell BK572.out 1).trans rfl
    have hfz21_0 := blk_frozen BK572.out 0
    have hfz21_1 := blk_frozen BK572.out 1
    go_wp2
    go_ret
    exact ⟨er, lb⟩
   rw [if_neg c18] at H
   have c18b0 : (a0_0 == a1_0 && (a0_1 == a1_1)) = false := by simpa using c18
   (try (have c18b1 : decide (a0_0 = a1_0 && (a0_1 == a1_1)) = false := by simpa using c18))
   (try (have c18b2 : (a0_0 == a1_0 && (a0_1 == a1_1)) = false := by simpa using c18))
   (try (have c18b3 : ¬ (a0_0 = a1_0 && (a0_1 == a1_1)) := by simpa using c18))
   clear c18
   obtain rfl := Option.some.inj H
   have hnb22 := NB571_572.out
   have hnc22 := NB572_571.out
   have hcz23_0 : wc.cell? ⟨gb571, 0, none⟩ = some (.int .i64 a0_0) := (blk_cell BK571.out 0).trans rfl
   have hcz23_1 : wc.cell? ⟨gb571, 1, none⟩ = some (.int .u64 a0_1) := (blk_cell BK571.out 1).trans rfl
   have hfz23_0 := blk_frozen BK571.out 0
   have hfz23_1 := blk_frozen BK571.out 1
   have hcz24_0 : wc.cell? ⟨gb572, 0, none⟩ = some (.int .i64 a1_0) := (blk_cell BK572.out 0).trans rfl
   have hcz24_1 : wc.cell? ⟨gb572, 1, none⟩ = some (.int .u64 a1_1) := (blk_cell BK572.out 1).trans rfl
   have hfz24_0 := blk_frozen BK572.out 0
   have hfz24_1 := blk_frozen BK572.out 1
   go_wp2
   go_ret
   exact ⟨er, lb⟩

/-! ### bits_Mul64: function 93 -/
def bits_Mul64.f (a0 : Int) (a1 : Int) : Option (Int × Int) := some (IntKind.u64.wrap ((IntKind.u64.wrap ((IntKind.u64.wrap ((a0 / 4294967296) * (a1 / 4294967296))) + ((IntKind.u64.wrap ((IntKind.u64.wrap ((a0 / 4294967296) * (Go.bits .and .u64 a1 4294967295))) + ((IntKind.u64.wrap ((Go.bits .and .u64 a0 4294967295) * (Go.bits .and .u64 a1 4294967295))) / 4294967296))) / 4294967296))) + ((IntKind.u64.wrap ((Go.bits .and .u64 (IntKind.u64.wrap ((IntKind.u64.wrap ((a0 / 4294967296) * (Go.bits .and .u64 a1 4294967295))) + ((IntKind.u64.wrap ((Go.bits .and .u64 a0 4294967295) * (Go.bits .and .u64 a1 4294967295))) / 4294967296))) 4294967295) + (IntKind.u64.wrap ((Go.bits .and .u64 a0 4294967295) * (a1 / 4294967296))))) / 4294967296)), IntKind.u64.wrap (a0 * a1))
set_option maxHeartbeats 8000000 in
set_option maxRecDepth 100000 in
theorem bits_Mul64.calls (a0 : Int) (a1 : Int) (r1 : Int) (r2 : Int) (w : World) (h : bits_Mul64.f a0 a1 = some (r1, r2)) :
    Calls Try.prog 93 #[.int .u64 a0, .int .u64 a1] w fun e w' => e = .returned (.tuple #[.int .u64 r1, .int .u64 r2]) ∧ Drawn0 w w' := by
 have H : (some (IntKind.u64.wrap ((IntKind.u64.wrap ((IntKind.u64.wrap ((a0 / 4294967296) * (a1 / 4294967296))) + ((IntKind.u64.wrap ((IntKind.u64.wrap ((a0 / 4294967296) * (Go.bits .and .u64 a1 4294967295))) + ((IntKind.u64.wrap ((Go.bits .and .u64 a0 4294967295) * (Go.bits .and .u64 a1 4294967295))) / 4294967296))) / 4294967296))) + ((IntKind.u64.wrap ((Go.bits .and .u64 (IntKind.u64.wrap ((IntKind.u64.wrap ((a0 / 4294967296) * (Go.bits .and .u64 a1 4294967295))) + ((IntKind.u64.wrap ((Go.bits .and .u64 a0 4294967295) * (Go.bits .and .u64 a1 4294967295))) / 4294967296))) 4294967295) + (IntKind.u64.wrap ((Go.bits .and .u64 a0 4294967295) * (a1 / 4294967296))))) / 4294967296)), IntKind.u64.wrap (a0 * a1))) = some (r1, r2) := h
 clear h
 simp only [Option.some.injEq, Prod.mk.injEq] at H
 obtain ⟨rfl, rfl⟩ := H
 go_enter Try.func93, Try.ntmps93
 go_wp2
 go_ret2
 exact ⟨by first | rfl | (simp; done) | (simp [*]; done), by repeat (first | exact Drawn0.refl _ | apply Drawn0.step)⟩

/-! ### safeint_Product: function 85 -/
def safeint_Product.f (a0 : Int) (a1 : Int) : Option (Int × Int) := (bits_Mul64.f (IntKind.u64.wrap (a0)) (IntKind.u64.wrap (a1))).bind fun bt574 => (if a0 < 0 then (if a1 < 0 then (some (wrap64 ((wrap64 ((wrap64 (bt574.1)) - a1)) - a0), bt574.2)) else (some (wrap64 ((wrap64 (bt574.1)) - a1), bt574.2))) else (if a1 < 0 then (some (wrap64 ((wrap64 (bt574.1)) - a0), bt574.2)) else (some (wrap64 (bt574.1), bt574.2))))
set_option maxHeartbeats 8000000 in
set_option maxRecDepth 100000 in
theorem safeint_Product.calls (a0 : Int) (a1 : Int) (r1 : Int) (r2 : Int) (w : World) (h : safeint_Product.f a0 a1 = some (r1, r2)) :
    Calls Try.prog 85 #[.int .i64 a0, .int .i64 a1] w fun e w' => e = .returned (.agg #[.int .i64 r1, .int .u64 r2]) ∧ Below w.heap.size w w' := by
 have hu125 := Try.underlying125
 have HB := ak (Below.refl w.heap.size w)
 have H : ((bits_Mul64.f (IntKind.u64.wrap (a0)) (IntKind.u64.wrap (a1))).bind fun bt574 => (if a0 < 0 then (if a1 < 0 then (some (wrap64 ((wrap64 ((wrap64 (bt574.1)) - a1)) - a0), bt574.2)) else (some (wrap64 ((wrap64 (bt574.1)) - a1), bt574.2))) else (if a1 < 0 then (some (wrap64 ((wrap64 (bt574.1)) - a0), bt574.2)) else (some (wrap64 (bt574.1), bt574.2))))) = some (r1, r2) := h
 clear h
 replace H := Option.bind_eq_some_iff.mp H
 obtain ⟨⟨t574, t575⟩, A30, H⟩ := H
 replace H : (if a0 < 0 then (if a1 < 0 then (some (wrap64 ((wrap64 ((wrap64 (t574)) - a1)) - a0), t575)) else (some (wrap64 ((wrap64 (t574)) - a1), t575))) else (if a1 < 0 then (some (wrap64 ((wrap64 (t574)) - a0), t575)) else (some (wrap64 (t574), t575)))) = some (r1, r2) := H
 have A3 := ak A30
 clear A30
 by_cases c4 : a0 < 0
 ·
  rw [if_pos c4] at H
  have c4b0 := decide_eq_true c4
  clear c4
  by_cases c5 : a1 < 0
  rotate_left
  ·
   rw [if_neg c5] at H
   have c5b0 := decide_eq_false c5
   clear c5
   simp only [Option.some.injEq, Prod.mk.injEq] at H
   obtain ⟨rfl, rfl⟩ := H
   go_enter Try.func85, Try.ntmps85
   go_wp2_with (first | ((with_reducible refine gate_dst (N := 4) rfl ?_); refine bxe 4 #[.int .i64 0, .int .u64 0] 125 ?_; intro gb573 hg w8 hbox hb; have n0_ := ak (bl hb); have n1_ := ak (hbox); have n2_ := ak ((by rw [hg]; exact (below_size lb) : w.heap.size ≤ gb573)); have n3_ := ak ((by rw [hg]; exact (below_size lb) : w.heap.size ≤ gb573)); clear HB; have HB := n0_; have BK573 := n1_; have GW573 := n2_; have GE573 := n3_; clear n0_ n1_ n2_ n3_; clear hb hbox hg) | ((with_reducible refine gate_callee (f := 93) rfl ?_); refine gl 13 Try.func93 #[.int .u64 (IntKind.u64.wrap (a0)), .int .u64 (IntKind.u64.wrap (a1))] ?_; (with_reducible refine (bits_Mul64.calls (IntKind.u64.wrap (a0)) (IntKind.u64.wrap (a1)) t574 t575 _ A3.out).mono ?_); rintro e w' ⟨rfl, ⟨nd, rfl⟩⟩; refine ⟨_, rfl, ?_⟩; (try (rw [drewN_self w8]; generalize hq_ : World.drewN w8 _ = w8; have n0_ : Aside0 (w8.heap[gb573]? = some (.cells #[.int .i64 0, .int .u64 0] 125 (0, 0))) := ⟨by rw [← hq_]; exact (bx BK573.out)⟩; have n1_ : Aside0 (Below w.heap.size w w8) := ⟨by rw [← hq_]; exact lb⟩; clear BK573 HB hq_; have BK573 := n0_; have HB := n1_; clear n0_ n1_)); have hcz9_0 : w8.cell? ⟨gb573, 0, none⟩ = some (.int .i64 0) := (blk_cell BK573.out 0).trans rfl; have hcz9_1 : w8.cell? ⟨gb573, 1, none⟩ = some (.int .u64 0) := (blk_cell BK573.out 1).trans rfl; have hfz9_0 := blk_frozen BK573.out 0; have hfz9_1 := blk_frozen BK573.out 1))
   refine bodyPost_ret (results_cell_row rfl _ _ gb573 125 #[.int .i64 (wrap64 ((wrap64 (t574)) - a1)), .int .u64 t575] (0, 0) _ rfl (by (with_reducible repeat (first | refine blk_drewN ?_ _ | refine blk_drew ?_ | refine blk_alloc ?_ _)); refine blk_put (cs := #[.int .i64 (wrap64 ((wrap64 (t574)) - a1)), .int .u64 0]) ?_ 1 _ rfl; (with_reducible repeat (first | refine blk_drewN ?_ _ | refine blk_drew ?_ | refine blk_alloc ?_ _)); refine blk_put (cs := #[.int .i64 0, .int .u64 0]) ?_ 0 _ rfl; exact bx BK573.out) Try.underlying125 rfl (by kernel_rfl)) rfl ?_
   exact ⟨er, lb⟩
  rw [if_pos c5] at H
  have c5b0 := decide_eq_true c5
  clear c5
  simp only [Option.some.injEq, Prod.mk.injEq] at H
  obtain ⟨rfl, rfl⟩ := H
  go_enter Try.func85, Try.ntmps85
  go_wp2_with (first | ((with_reducible refine gate_dst (N := 4) rfl ?_); refine bxe 4 #[.int .i64 0, .int .u64 0] 125 ?_; intro gb573 hg w6 hbox hb; have n0_ := ak (bl hb); have n1_ := ak (hbox); have n2_ := ak ((by rw [hg]; exact (below_size lb) : w.heap.size ≤ gb573)); have n3_ := ak ((by rw [hg]; exact (below_size lb) : w.heap.size ≤ gb573)); clear HB; have HB := n0_; have BK573 := n1_; have GW573 := n2_; have GE573 := n3_; clear n0_ n1_ n2_ n3_; clear hb hbox hg) | ((with_reducible refine gate_callee (f := 93) rfl ?_); refine gl 13 Try.func93 #[.int .u64 (IntKind.u64.wrap (a0)), .int .u64 (IntKind.u64.wrap (a1))] ?_; (with_reducible refine (bits_Mul64.calls (IntKind.u64.wrap (a0)) (IntKind.u64.wrap (a1)) t574 t575 _ A3.out).mono ?_); rintro e w' ⟨rfl, ⟨nd, rfl⟩⟩; refine ⟨_, rfl, ?_⟩; (try (rw [drewN_self w6]; generalize hq_ : World.drewN w6 _ = w6; have n0_ : Aside0 (w6.heap[gb573]? = some (.cells #[.int .i64 0, .int .u64 0] 125 (0, 0))) := ⟨by rw [← hq_]; exact (bx BK573.out)⟩; have n1_ : Aside0 (Below w.heap.size w w6) := ⟨by rw [← hq_]; exact lb⟩; clear BK573 HB hq_; have BK573 := n0_; have HB := n1_; clear n0_ n1_)); have hcz7_0 : w6.cell? ⟨gb573, 0, none⟩ = some (.int .i64 0) := (blk_cell BK573.out 0).trans rfl; have hcz7_1 : w6.cell? ⟨gb573, 1, none⟩ = some (.int .u64 0) := (blk_cell BK573.out 1).trans rfl; have hfz7_0 := blk_frozen BK573.out 0; have hfz7_1 := blk_frozen BK573.out 1))
  refine bodyPost_ret (results_cell_row rfl _ _ gb573 125 #[.int .i64 (wrap64 ((wrap64 ((wrap64 (t574)) - a1)) - a0)), .int .u64 t575] (0, 0) _ rfl (by (with_reducible repeat (first | refine blk_drewN ?_ _ | refine blk_drew ?_ | refine blk_alloc ?_ _)); refine blk_put (cs := #[.int .i64 (wrap64 ((wrap64 ((wrap64 (t574)) - a1)) - a0)), .int .u64 0]) ?_ 1 _ rfl; (with_reducible repeat (first | refine blk_drewN ?_ _ | refine blk_drew ?_ | refine blk_alloc ?_ _)); refine blk_put (cs := #[.int .i64 0, .int .u64 0]) ?_ 0 _ rfl; exact bx BK573.out) Try.underlying125 rfl (by kernel_rfl)) rfl ?_
  exact ⟨er, lb⟩
 rw [if_neg c4] at H
 have c4b0 := decide_eq_false c4
 clear c4
 by_cases c10 : a1 < 0
 ·
  rw [if_pos c10] at H
  have c10b0 := decide_eq_true c10
  clear c10
  simp only [Option.some.injEq, Prod.mk.injEq] at H
  obtain ⟨rfl, rfl⟩ := H
  go_enter Try.func85, Try.ntmps85
  go_wp2_with (first | ((with_reducible refine gate_dst (N := 4) rfl ?_); refine bxe 4 #[.int .i64 0, .int .u64 0] 125 ?_; intro gb573 hg w11 hbox hb; have n0_ := ak (bl hb); have n1_ := ak (hbox); have n2_ := ak ((by rw [hg]; exact (below_size lb) : w.heap.size ≤ gb573)); have n3_ := ak ((by rw [hg]; exact (below_size lb) : w.heap.size ≤ gb573)); clear HB; have HB := n0_; have BK573 := n1_; have GW573 := n2_; have GE573 := n3_; clear n0_ n1_ n2_ n3_; clear hb hbox hg) | ((with_reducible refine gate_callee (f := 93) rfl ?_); refine gl 13 Try.func93 #[.int .u64 (IntKind.u64.wrap (a0)), .int .u64 (IntKind.u64.wrap (a1))] ?_; (with_reducible refine (bits_Mul64.calls (IntKind.u64.wrap (a0)) (IntKind.u64.wrap (a1)) t574 t575 _ A3.out).mono ?_); rintro e w' ⟨rfl, ⟨nd, rfl⟩⟩; refine ⟨_, rfl, ?_⟩; (try (rw [drewN_self w11]; generalize hq_ : World.drewN w11 _ = w11; have n0_ : Aside0 (w11.heap[gb573]? = some (.cells #[.int .i64 0, .int .u64 0] 125 (0, 0))) := ⟨by rw [← hq_]; exact (bx BK573.out)⟩; have n1_ : Aside0 (Below w.heap.size w w11) := ⟨by rw [← hq_]; exact lb⟩; clear BK573 HB hq_; have BK573 := n0_; have HB := n1_; clear n0_ n1_)); have hcz12_0 : w11.cell? ⟨gb573, 0, none⟩ = some (.int .i64 0) := (blk_cell BK573.out 0).trans rfl; have hcz12_1 : w11.cell? ⟨gb573, 1, none⟩ = some (.int .u64 0) := (blk_cell BK573.out 1).trans rfl; have hfz12_0 := blk_frozen BK573.out 0; have hfz12_1 := blk_frozen BK573.out 1))
  refine bodyPost_ret (results_cell_row rfl _ _ gb573 125 #[.int .i64 (wrap64 ((wrap64 (t574)) - a0)), .int .u64 t575] (0, 0) _ rfl (by (with_reducible repeat (first | refine blk_drewN ?_ _ | refine blk_drew ?_ | refine blk_alloc ?_ _)); refine blk_put (cs := #[.int .i64 (wrap64 ((wrap64 (t574)) - a0)), .int .u64 0]) ?_ 1 _ rfl; (with_reducible repeat (first | refine blk_drewN ?_ _ | refine blk_drew ?_ | refine blk_alloc ?_ _)); refine blk_put (cs := #[.int .i64 0, .int .u64 0]) ?_ 0 _ rfl; exact bx BK573.out) Try.underlying125 rfl (by kernel_rfl)) rfl ?_
  exact ⟨er, lb⟩
 rw [if_neg c10] at H
 have c10b0 := decide_eq_false c10
 clear c10
 simp only [Option.some.injEq, Prod.mk.injEq] at H
 obtain ⟨rfl, rfl⟩ := H
 go_enter Try.func85, Try.ntmps85
 go_wp2_with (first | ((with_reducible refine gate_dst (N := 4) rfl ?_); refine bxe 4 #[.int .i64 0, .int .u64 0] 125 ?_; intro gb573 hg w13 hbox hb; have n0_ := ak (bl hb); have n1_ := ak (hbox); have n2_ := ak ((by rw [hg]; exact (below_size lb) : w.heap.size ≤ gb573)); have n3_ := ak ((by rw [hg]; exact (below_size lb) : w.heap.size ≤ gb573)); clear HB; have HB := n0_; have BK573 := n1_; have GW573 := n2_; have GE573 := n3_; clear n0_ n1_ n2_ n3_; clear hb hbox hg) | ((with_reducible refine gate_callee (f := 93) rfl ?_); refine gl 13 Try.func93 #[.int .u64 (IntKind.u64.wrap (a0)), .int .u64 (IntKind.u64.wrap (a1))] ?_; (with_reducible refine (bits_Mul64.calls (IntKind.u64.wrap (a0)) (IntKind.u64.wrap (a1)) t574 t575 _ A3.out).mono ?_); rintro e w' ⟨rfl, ⟨nd, rfl⟩⟩; refine ⟨_, rfl, ?_⟩; (try (rw [drewN_self w13]; generalize hq_ : World.drewN w13 _ = w13; have n0_ : Aside0 (w13.heap[gb573]? = some (.cells #[.int .i64 0, .int .u64 0] 125 (0, 0))) := ⟨by rw [← hq_]; exact (bx BK573.out)⟩; have n1_ : Aside0 (Below w.heap.size w w13) := ⟨by rw [← hq_]; exact lb⟩; clear BK573 HB hq_; have BK573 := n0_; have HB := n1_; clear n0_ n1_)); have hcz14_0 : w13.cell? ⟨gb573, 0, none⟩ = some (.int .i64 0) := (blk_cell BK573.out 0).trans rfl; have hcz14_1 : w13.cell? ⟨gb573, 1, none⟩ = some (.int .u64 0) := (blk_cell BK573.out 1).trans rfl; have hfz14_0 := blk_frozen BK573.out 0; have hfz14_1 := blk_frozen BK573.out 1))
 refine bodyPost_ret (results_cell_row rfl _ _ gb573 125 #[.int .i64 (wrap64 (t574)), .int .u64 t575] (0, 0) _ rfl (by (with_reducible repeat (first | refine blk_drewN ?_ _ | refine blk_drew ?_ | refine blk_alloc ?_ _)); refine blk_put (cs := #[.int .i64 (wrap64 (t574)), .int .u64 0]) ?_ 1 _ rfl; (with_reducible repeat (first | refine blk_drewN ?_ _ | refine blk_drew ?_ | refine blk_alloc ?_ _)); refine blk_put (cs := #[.int .i64 0, .int .u64 0]) ?_ 0 _ rfl; exact bx BK573.out) Try.underlying125 rfl (by kernel_rfl)) rfl ?_
 exact ⟨er, lb⟩

end Go.Proofs.Ytkdoihcjhccliaa.Q
