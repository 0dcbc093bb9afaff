-- PRINTED by print.py (a twelfth state) out of the translation. Not trusted: Lean checks it.
import Derived.Test.YtkdoihcjhccliaaQ0
import Derived.Test.YtkdoihcjhccliaaQ23
namespace Go.Proofs.Ytkdoihcjhccliaa.Q
open Go.RowKit Go.Proofs.YtkdoihcjhccliaaW.PrintWords Go.Proofs.YtkdoihcjhccliaaW.PrintLast Go.Proofs.YtkdoihcjhccliaaW.PrintMore
attribute [local go_sem] max2_int min2_int max_two min_two max_three min_three max_four min_four   -- for this text's walks alone
set_option linter.unusedVariables false
set_option linter.unusedSimpArgs false

/-! ### compassref11_Costs: function 35 -/
mutual
def compassref11_Costs.l0 : Nat → Int → Int → Int → List (S98) → Option (Int)
  | 0, _, _, _, _ => none
  | k + 1, x3, x5, x479000, x479001 => if x3 = 0 then (compassref11_Costs.j1 k x3 x5 (decide (x5 < (x479001.length : Int))) x479000 x479001) else (compassref11_Costs.j1 k x3 x5 false x479000 x479001)
def compassref11_Costs.j1 : Nat → Int → Int → Bool → Int → List (S98) → Option (Int)
  | 0, _, _, _, _, _ => none
  | k + 1, x3, x5, x19, x479000, x479001 => if x19 = true then (if 0 ≤ x5 then (if x5 < (x479001.length : Int) then (if ((rd_T98 x479001 x5).f3) < 0 then (compassref11_Costs.l0 k 80 (wrap64 (x5 + 1)) x479000 x479001) else (compassref11_Costs.l0 k x3 (wrap64 (x5 + 1)) x479000 x479001)) else (none)) else (none)) else (some x3)
end
def compassref11_Costs.f (k : Nat) (a0_0 : Int) (l0_1 : List (S98)) : Option (Int) := (compassref03_Check.f k a0_0 l0_1).bind fun bt479 => (compassref11_Costs.l0 k bt479.1 0 a0_0 l0_1)
set_option maxHeartbeats 8000000 in
set_option maxRecDepth 100000 in
theorem compassref11_Costs.calls (k : Nat) (a0_0 : Int) (A0_1 : Option Addr) (c0_1 : Nat) (l0_1 : List (S98)) (r : Int) (w : World) (hr0_1 : Kd.C k98 w A0_1 l0_1.length l0_1) (hc0_1 : l0_1.length ≤ c0_1) (h : compassref11_Costs.f k a0_0 l0_1 = some r) :
    Calls Try.prog 35 #[.agg #[.int .i64 a0_0, .slice A0_1 l0_1.length c0_1]] w fun e w' => e = .returned (.int .i64 r) ∧ Below w.heap.size w w' := by
 have hu24 := Try.underlying24
 have HR0_1 := ak hr0_1
 have HC0_1 := ak hc0_1
 clear hr0_1 hc0_1
 have HB := ak (Below.refl w.heap.size w)
 have H : ((compassref03_Check.f k a0_0 l0_1).bind fun bt479 => (compassref11_Costs.l0 k bt479.1 0 a0_0 l0_1)) = some r := h
 clear h
 replace H := Option.bind_eq_some_iff.mp H
 obtain ⟨⟨t479, t480⟩, A20, H⟩ := H
 replace H : (compassref11_Costs.l0 k t479 0 a0_0 l0_1) = some r := H
 have A2 := ak A20
 clear A20
 have H' := ak H
 clear H
 go_enter Try.func35, Try.ntmps35
 go_wp2_with (first | ((with_reducible refine gate_dst (N := 1) rfl ?_); (try (refine gate_guard (by rfl) ?_; dsimp only)); refine bxe 1 #[.int .i64 a0_0, .slice A0_1 l0_1.length c0_1] 24 ?_; intro gb478 hg w3 hbox hb; have n0_ := ak (bl hb); have n1_ := ak (hbox); have n2_ := ak ((by rw [hg]; exact (below_size lb) : w.heap.size ≤ gb478)); have n3_ := ak ((by rw [hg]; exact (below_size lb) : w.heap.size ≤ gb478)); clear HB; have HB := n0_; have BK478 := n1_; have GW478 := n2_; have GE478 := n3_; clear n0_ n1_ n2_ n3_; clear hb hbox hg; have hcz4_0 : w3.cell? ⟨gb478, 0, none⟩ = some (.int .i64 a0_0) := (blk_cell BK478.out 0).trans rfl; have hcz4_1 : w3.cell? ⟨gb478, 1, none⟩ = some (.slice A0_1 l0_1.length c0_1) := (blk_cell BK478.out 1).trans rfl; have hfz4_0 := blk_frozen BK478.out 0; have hfz4_1 := blk_frozen BK478.out 1) | ((with_reducible refine gate_callee (f := 44) rfl ?_); refine gl 8 Try.func44 #[.agg #[.int .i64 a0_0, .slice A0_1 l0_1.length c0_1]] ?_; (with_reducible refine (compassref03_Check.calls k a0_0 _ _ l0_1 t479 t480 _ (Kd.C_below HR0_1.out lb) HC0_1.out A2.out).mono ?_); rintro e w5 ⟨rfl, hb⟩; refine ⟨_, rfl, ?_⟩; have n0_ := ak (bo BK478 hb); have n1_ := ak (bl hb); clear BK478; clear HB; have BK478 := n0_; have HB := n1_; clear n0_ n1_; clear hb))
 go_loopg [3, 5] k (fun kq v3 v5 w' => ∃ (x3_1 : Int) (x5_1 : Int), v3 = .int .i64 x3_1 ∧ v5 = .int .i64 x5_1 ∧ Aside0 (compassref11_Costs.l0 kq x3_1 x5_1 a0_0 l0_1 = some r) ∧ Aside0 (kq ≤ k) ∧ Aside0 (w'.heap[gb478]? = some (.cells #[.int .i64 a0_0, (.slice A0_1 l0_1.length c0_1)] 24 (0, 0))) ∧ Aside0 (Below w.heap.size w w'))
 case atStart => exact ⟨(t479), (0), sr, sr, H', ⟨Nat.le_refl _⟩, xb BK478, ⟨lb⟩⟩
 clear H'
 try clear p2; try clear c3; try clear c4; try clear hcz4_0; try clear hcz4_1; try clear hfz4_0; try clear hfz4_1
 obtain ⟨x3_1, x5_1, rfl, rfl, HA, HK1, BK478, HB⟩ := hrel
 cases gk with
 | zero => exact absurd HA.out (by simp [compassref11_Costs.l0])
 | succ k1 => ?_
 have H := HA.out
 clear HA
 simp only [compassref11_Costs.l0] at H
 have HC6 := ak H
 clear H
 go_upto_region 3 with (fail)
 go_cut [19] (fun v19 wc => ∃ (kq : Nat) (x19_5 : Bool), v19 = .bool x19_5 ∧ Aside0 (compassref11_Costs.j1 kq x3_1 x5_1 x19_5 a0_0 l0_1 = some r) ∧ Aside0 (kq ≤ k1) ∧ Aside0 (wc.heap[gb478]? = some (.cells #[.int .i64 a0_0, (.slice A0_1 l0_1.length c0_1)] 24 (0, 0))) ∧ Aside0 (Below w.heap.size w wc))
 case first =>
  have H := HC6.out
  clear HC6
  by_cases c7 : x3_1 = 0
  rotate_left
  ·
   rw [if_neg c7] at H
   have c7b0 := bn c7
   have c7b1 : (x3_1 != 0) = true := bne_iff_ne.mpr c7
   (first | rw [c7b0] | (simp only [i64_w, i32_w]; rw [c7b0]) | skip)
   have H' := ak H
   clear H
   go_wp2
   go_meet
   case rel => exact ⟨_, (false), sr, H', ⟨by have := HK1.out; first | omega | exact Nat.le_refl _⟩, xb BK478, ⟨lb⟩⟩
  rw [if_pos c7] at H
  have c7b0 := be c7
  have c7b1 : (x3_1 != 0) = false := bne_eq_false_iff_eq.mpr c7
  clear c7
  (first | rw [c7b0] | (simp only [i64_w, i32_w]; rw [c7b0]) | skip)
  have H' := ak H
  clear H
  have hcz8_0 : wr.cell? ⟨gb478, 0, none⟩ = some (.int .i64 a0_0) := (blk_cell BK478.out 0).trans rfl
  have hcz8_1 : wr.cell? ⟨gb478, 1, none⟩ = some (.slice A0_1 l0_1.length c0_1) := (blk_cell BK478.out 1).trans rfl
  have hfz8_0 := blk_frozen BK478.out 0
  have hfz8_1 := blk_frozen BK478.out 1
  go_wp2
  go_meet
  case rel => exact ⟨_, (decide (x5_1 < (l0_1.length : Int))), sr, H', ⟨by have := HK1.out; first | omega | exact Nat.le_refl _⟩, xb BK478, ⟨lb⟩⟩
 case rest =>
  clear HC6
  try clear p2; try clear c3; try clear c4; try clear c7; try clear c7b0; try clear c7b1; try clear hcz4_0; try clear hcz4_1; try clear hcz8_0; try clear hcz8_1; try clear hfz4_0; try clear hfz4_1; try clear hfz8_0; try clear hfz8_1; try clear p2
  obtain ⟨kq, x19_5, rfl, HA, HJ5, BK478, HB⟩ := hcut
  cases kq with
  | zero => exact absurd HA.out (by simp [compassref11_Costs.j1])
  | succ kj5 =>
   have H := HA.out
   clear HA
   simp only [compassref11_Costs.j1] at H
   by_cases c9 : x19_5 = true
   rotate_left
   ·
    replace c9 := Bool.eq_false_iff.mpr c9
    subst c9
    have H1 : (some x3_1) = some r := by rw [if_neg (show ¬ (false = true) by decide)] at H; exact H
    clear H
    have H := H1
    clear H1
    obtain rfl := Option.some.inj H
    go_wp2
    go_ret
    exact ⟨er, lb⟩

   subst c9
   have H1 : (if 0 ≤ x5_1 then (if x5_1 < (l0_1.length : Int) then (if ((rd_T98 l0_1 x5_1).f3) < 0 then (compassref11_Costs.l0 kj5 80 (wrap64 (x5_1 + 1)) a0_0 l0_1) else (compassref11_Costs.l0 kj5 x3_1 (wrap64 (x5_1 + 1)) a0_0 l0_1)) else (none)) else (none)) = some r := by rw [if_pos rfl] at H; exact H
   clear H
   have H := H1
   clear H1
   by_cases c10 : 0 ≤ x5_1
   rotate_left
   ·
    rw [if_neg c10] at H
    exact absurd H (by simp)
   rw [if_pos c10] at H
   have c10b0 := decide_eq_true c10
   clear c10
   by_cases c11 : x5_1 < (l0_1.length : Int)
   rotate_left
   ·
    rw [if_neg c11] at H
    exact absurd H (by simp)
   rw [if_pos c11] at H
   have c11b0 := decide_eq_true c11
   clear c11
   by_cases c12 : ((rd_T98 l0_1 x5_1).f3) < 0
   rotate_left
   ·
    rw [if_neg c12] at H
    have c12b0 := decide_eq_false c12
    clear c12
    have H' := ak H
    clear H
    have hcz14_0 : wc.cell? ⟨gb478, 0, none⟩ = some (.int .i64 a0_0) := (blk_cell BK478.out 0).trans rfl
    have hcz14_1 : wc.cell? ⟨gb478, 1, none⟩ = some (.slice A0_1 l0_1.length c0_1) := (blk_cell BK478.out 1).trans rfl
    have hfz14_0 := blk_frozen BK478.out 0
    have hfz14_1 := blk_frozen BK478.out 1
    have p481 : 0 ≤ (x5_1 : Int) := oda
    have q481 : x5_1 < (l0_1.length : Int) := oda
    obtain ⟨ad481, e481, hx481_0, hx481_1, hx481_2, hx481_3⟩ := at_T98 HR0_1.out x5_1 p481 q481
    cases e481
    (try replace hx481_0 := hbc HB hx481_0)
    (try replace hx481_1 := hbc HB hx481_1)
    (try replace hx481_2 := hbc HB hx481_2)
    (try replace hx481_3 := hbc HB hx481_3)
    replace p481 := eq_true p481
    replace q481 := eq_true q481
    go_wp2
    go_roundg kj5
    case measure => have := HK1.out; have := HJ5.out; omega
    case rel => exact ⟨(x3_1), (wrap64 (x5_1 + 1)), sr, sr, H', ⟨by have := HK1.out; have := HJ5.out; omega⟩, xb BK478, ⟨lb⟩⟩
   rw [if_pos c12] at H
   have c12b0 := decide_eq_true c12
   clear c12
   have H' := ak H
   clear H
   have hcz13_0 : wc.cell? ⟨gb478, 0, none⟩ = some (.int .i64 a0_0) := (blk_cell BK478.out 0).trans rfl
   have hcz13_1 : wc.cell? ⟨gb478, 1, none⟩ = some (.slice A0_1 l0_1.length c0_1) := (blk_cell BK478.out 1).trans rfl
   have hfz13_0 := blk_frozen BK478.out 0
   have hfz13_1 := blk_frozen BK478.out 1
   have p481 : 0 ≤ (x5_1 : Int) := oda
   have q481 : x5_1 < (l0_1.length : Int) := oda
   obtain ⟨ad481, e481, hx481_0, hx481_1, hx481_2, hx481_3⟩ := at_T98 HR0_1.out x5_1 p481 q481
   cases e481
   (try replace hx481_0 := hbc HB hx481_0)
   (try replace hx481_1 := hbc HB hx481_1)
   (try replace hx481_2 := hbc HB hx481_2)
   (try replace hx481_3 := hbc HB hx481_3)
   replace p481 := eq_true p481
   replace q481 := eq_true q481
   go_wp2
   go_roundg kj5
   case measure => have := HK1.out; have := HJ5.out; omega
   case rel => exact ⟨(80), (wrap64 (x5_1 + 1)), sr, sr, H', ⟨by have := HK1.out; have := HJ5.out; omega⟩, xb BK478, ⟨lb⟩⟩
end Go.Proofs.Ytkdoihcjhccliaa.Q
