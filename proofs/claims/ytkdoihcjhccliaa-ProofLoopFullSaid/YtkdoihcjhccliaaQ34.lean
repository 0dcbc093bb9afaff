-- PRINTED by print.py (a twelfth state) out of the translation. Not trusted: Lean checks it.
import Derived.Test.YtkdoihcjhccliaaQ0
namespace Go.Proofs.Ytkdoihcjhccliaa.Q
open Go.RowKit Go.Proofs.YtkdoihcjhccliaaW.PrintWords Go.Proofs.YtkdoihcjhccliaaW.PrintLast Go.Proofs.YtkdoihcjhccliaaW.PrintMore
attribute [local go_sem] max2_int min2_int max_two min_two max_three min_three max_four min_four   -- for this text's walks alone
set_option linter.unusedVariables false
set_option linter.unusedSimpArgs false

/-! ### compassref08_Cost: function 47 -/
def compassref08_Cost.l0 : Nat → List Int → Int → Int → Int → List (S98) → Option (Int)
  | 0, _, _, _, _, _ => none
  | k + 1, x1, x5, x6, x427000, x427001 => if x6 < (x1.length : Int) then (if 0 ≤ x6 then (if 0 ≤ (rd x1 x6) then (if (rd x1 x6) < (x427001.length : Int) then (compassref08_Cost.l0 k x1 (wrap64 (x5 + ((rd_T98 x427001 (rd x1 x6)).f3))) (wrap64 (x6 + 1)) x427000 x427001) else (none)) else (none)) else (none)) else (some x5)
def compassref08_Cost.f (k : Nat) (a0_0 : Int) (l0_1 : List (S98)) (l1 : List Int) : Option (Int) := compassref08_Cost.l0 k l1 0 0 a0_0 l0_1
set_option maxHeartbeats 8000000 in
set_option maxRecDepth 100000 in
theorem compassref08_Cost.calls (k : Nat) (a0_0 : Int) (A0_1 : Option Addr) (c0_1 : Nat) (l0_1 : List (S98)) (A1 : Option Addr) (c1 : Nat) (l1 : List Int) (r : Int) (w : World) (hr0_1 : Kd.C k98 w A0_1 l0_1.length l0_1) (hc0_1 : l0_1.length ≤ c0_1) (hr1 : Kd.C (Kd.int .i64) w A1 l1.length l1) (hc1 : l1.length ≤ c1) (h : compassref08_Cost.f k a0_0 l0_1 l1 = some r) :
    Calls Try.prog 47 #[.agg #[.int .i64 a0_0, .slice A0_1 l0_1.length c0_1], .slice A1 l1.length c1] w fun e w' => e = .returned (.int .i64 r) ∧ Below w.heap.size w w' := by
 have hu24 := Try.underlying24
 have HR0_1 := ak hr0_1
 have HC0_1 := ak hc0_1
 clear hr0_1 hc0_1
 have HR1 := ak hr1
 have HC1 := ak hc1
 clear hr1 hc1
 have HB := ak (Below.refl w.heap.size w)
 have H : (compassref08_Cost.l0 k l1 0 0 a0_0 l0_1) = some r := h
 clear h
 have H' := ak H
 clear H
 go_enter Try.func47, Try.ntmps47
 go_wp2_with (first | ((with_reducible refine gate_dst (N := 2) rfl ?_); refine bxe 2 #[.int .i64 a0_0, .slice A0_1 l0_1.length c0_1] 24 ?_; intro gb426 hg w3 hbox hb; have n0_ := ak (bl hb); have n1_ := ak (hbox); have n2_ := ak ((by rw [hg]; exact (below_size lb) : w.heap.size ≤ gb426)); have n3_ := ak ((by rw [hg]; exact (below_size lb) : w.heap.size ≤ gb426)); clear HB; have HB := n0_; have BK426 := n1_; have GW426 := n2_; have GE426 := n3_; clear n0_ n1_ n2_ n3_; clear hb hbox hg))
 repeat (go_quiet (first | ((with_reducible refine gate_dst (N := 2) rfl ?_); refine bxe 2 #[.int .i64 a0_0, .slice A0_1 l0_1.length c0_1] 24 ?_; intro gb426 hg w3 hbox hb; have n0_ := ak (bl hb); have n1_ := ak (hbox); have n2_ := ak ((by rw [hg]; exact (below_size lb) : w.heap.size ≤ gb426)); have n3_ := ak ((by rw [hg]; exact (below_size lb) : w.heap.size ≤ gb426)); clear HB; have HB := n0_; have BK426 := n1_; have GW426 := n2_; have GE426 := n3_; clear n0_ n1_ n2_ n3_; clear hb hbox hg)); try go_wp2_with (first | ((with_reducible refine gate_dst (N := 2) rfl ?_); refine bxe 2 #[.int .i64 a0_0, .slice A0_1 l0_1.length c0_1] 24 ?_; intro gb426 hg w3 hbox hb; have n0_ := ak (bl hb); have n1_ := ak (hbox); have n2_ := ak ((by rw [hg]; exact (below_size lb) : w.heap.size ≤ gb426)); have n3_ := ak ((by rw [hg]; exact (below_size lb) : w.heap.size ≤ gb426)); clear HB; have HB := n0_; have BK426 := n1_; have GW426 := n2_; have GE426 := n3_; clear n0_ n1_ n2_ n3_; clear hb hbox hg)))
 go_loopg [5, 6] k (fun kq v5 v6 w' => ∃ (x5_1 : Int) (x6_1 : Int), v5 = .int .i64 x5_1 ∧ v6 = .int .i64 x6_1 ∧ Aside0 (compassref08_Cost.l0 kq l1 x5_1 x6_1 a0_0 l0_1 = some r) ∧ Aside0 (kq ≤ k) ∧ Aside0 (w'.heap[gb426]? = some (.cells #[.int .i64 a0_0, (.slice A0_1 l0_1.length c0_1)] 24 (0, 0))) ∧ Aside0 (Below w.heap.size w w'))
 case atStart => exact ⟨(0), (0), sr, sr, H', ⟨Nat.le_refl _⟩, xb BK426, ⟨lb⟩⟩
 clear H'
 try clear c1; try clear p2
 obtain ⟨x5_1, x6_1, rfl, rfl, HA, HK1, BK426, HB⟩ := hrel
 cases gk with
 | zero => exact absurd HA.out (by simp [compassref08_Cost.l0])
 | succ k1 => ?_
 have H := HA.out
 clear HA
 simp only [compassref08_Cost.l0] at H
 by_cases c4 : x6_1 < (l1.length : Int)
 rotate_left
 ·
  rw [if_neg c4] at H
  have c4b0 := decide_eq_false c4
  clear c4
  obtain rfl := Option.some.inj H
  go_wp2
  repeat (go_quiet (fail); try go_wp2)
  go_ret
  exact ⟨er, lb⟩

 rw [if_pos c4] at H
 have c4b0 := decide_eq_true c4
 clear c4
 by_cases c5 : 0 ≤ x6_1
 rotate_left
 ·
  rw [if_neg c5] at H
  exact absurd H (by simp)
 rw [if_pos c5] at H
 have c5b0 := decide_eq_true c5
 clear c5
 by_cases c6 : 0 ≤ (rd l1 x6_1)
 rotate_left
 ·
  rw [if_neg c6] at H
  exact absurd H (by simp)
 rw [if_pos c6] at H
 have c6b0 := decide_eq_true c6
 clear c6
 by_cases c7 : (rd l1 x6_1) < (l0_1.length : Int)
 rotate_left
 ·
  rw [if_neg c7] at H
  exact absurd H (by simp)
 rw [if_pos c7] at H
 have c7b0 := decide_eq_true c7
 clear c7
 have H' := ak H
 clear H
 have hcz8_0 : wr.cell? ⟨gb426, 0, none⟩ = some (.int .i64 a0_0) := (blk_cell BK426.out 0).trans rfl
 have hcz8_1 : wr.cell? ⟨gb426, 1, none⟩ = some (.slice A0_1 l0_1.length c0_1) := (blk_cell BK426.out 1).trans rfl
 have hfz8_0 := blk_frozen BK426.out 0
 have hfz8_1 := blk_frozen BK426.out 1
 have p427 : 0 ≤ (x6_1 : Int) := oda
 have q427 : x6_1 < (l1.length : Int) := oda
 obtain ⟨ad427, e427, hx427_0⟩ := Kd.at_int HR1.out x6_1 p427 q427
 cases e427
 (try replace hx427_0 := hbc HB hx427_0)
 replace p427 := eq_true p427
 replace q427 := eq_true q427
 have p428 : 0 ≤ ((rd l1 x6_1) : Int) := oda
 have q428 : (rd l1 x6_1) < (l0_1.length : Int) := oda
 obtain ⟨ad428, e428, hx428_0, hx428_1, hx428_2, hx428_3⟩ := at_T98 HR0_1.out (rd l1 x6_1) p428 q428
 cases e428
 (try replace hx428_0 := hbc HB hx428_0)
 (try replace hx428_1 := hbc HB hx428_1)
 (try replace hx428_2 := hbc HB hx428_2)
 (try replace hx428_3 := hbc HB hx428_3)
 replace p428 := eq_true p428
 replace q428 := eq_true q428
 go_wp2
 repeat (go_quiet (fail); try go_wp2)
 go_roundg k1
 case measure => have := HK1.out; omega
 case rel => exact ⟨(wrap64 (x5_1 + ((rd_T98 l0_1 (rd l1 x6_1)).f3))), (wrap64 (x6_1 + 1)), sr, sr, H', ⟨by have := HK1.out; omega⟩, xb BK426, ⟨lb⟩⟩
end Go.Proofs.Ytkdoihcjhccliaa.Q
