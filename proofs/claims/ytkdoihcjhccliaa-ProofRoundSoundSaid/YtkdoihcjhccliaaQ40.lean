-- PRINTED by print.py (a twelfth state) out of the translation. Not trusted: Lean checks it.
import Derived.Test.YtkdoihcjhccliaaQ0
import Derived.Test.YtkdoihcjhccliaaQ20
namespace Go.Proofs.Ytkdoihcjhccliaa.Q
open Go.RowKit Go.Proofs.YtkdoihcjhccliaaW.PrintWords Go.Proofs.YtkdoihcjhccliaaW.PrintLast Go.Proofs.YtkdoihcjhccliaaW.PrintMore
attribute [local go_sem] max2_int min2_int max_two min_two max_three min_three max_four min_four   -- for this text's walks alone
set_option linter.unusedVariables false
set_option linter.unusedSimpArgs false

/-! ### compassref11_Rounds: function 32 -/
mutual
def compassref11_Rounds.l0 : Nat → List Int → Int → Int → List (S98) → Option (Bool)
  | 0, _, _, _, _ => none
  | k + 1, x1, x5, x475000, x475001 => if x5 < (x1.length : Int) then (if 0 ≤ x5 then (if (rd x1 x5) < 1 then (some false) else (if (rd x1 x5) > 1048576 then (some false) else (compassref11_Rounds.l0 k x1 (wrap64 (x5 + 1)) x475000 x475001))) else (none)) else (compassref11_Rounds.l1 k x1 0 x475000 x475001)
def compassref11_Rounds.l1 : Nat → List Int → Int → Int → List (S98) → Option (Bool)
  | 0, _, _, _, _ => none
  | k + 1, x1, x6, x475000, x475001 => if x6 < x475000 then ((compassref11_Out.f k x475000 x475001 x1 x6).bind fun t477 => (if t477 = 0 then (compassref11_Rounds.l1 k x1 (wrap64 (x6 + 1)) x475000 x475001) else (some false))) else (some true)
end
def compassref11_Rounds.f (k : Nat) (a0_0 : Int) (l0_1 : List (S98)) (l1 : List Int) : Option (Bool) := if (l1.length : Int) = (l0_1.length : Int) then (compassref11_Rounds.l0 k l1 0 a0_0 l0_1) else (some false)
set_option maxHeartbeats 8000000 in
set_option maxRecDepth 100000 in
theorem compassref11_Rounds.calls (k : Nat) (a0_0 : Int) (A0_1 : Option Addr) (c0_1 : Nat) (l0_1 : List (S98)) (A1 : Option Addr) (c1 : Nat) (l1 : List Int) (r : Bool) (w : World) (hr0_1 : Kd.C k98 w A0_1 l0_1.length l0_1) (hc0_1 : l0_1.length ≤ c0_1) (hr1 : Kd.C (Kd.int .i64) w A1 l1.length l1) (hc1 : l1.length ≤ c1) (h : compassref11_Rounds.f k a0_0 l0_1 l1 = some r) :
    Calls Try.prog 32 #[.agg #[.int .i64 a0_0, .slice A0_1 l0_1.length c0_1], .slice A1 l1.length c1] w fun e w' => e = .returned (.bool r) ∧ Below w.heap.size w w' := by
 have hu24 := Try.underlying24
 have HR0_1 := ak hr0_1
 have HC0_1 := ak hc0_1
 clear hr0_1 hc0_1
 have HR1 := ak hr1
 have HC1 := ak hc1
 clear hr1 hc1
 have HB := ak (Below.refl w.heap.size w)
 have H : (if (l1.length : Int) = (l0_1.length : Int) then (compassref11_Rounds.l0 k l1 0 a0_0 l0_1) else (some false)) = some r := h
 clear h
 by_cases c3 : (l1.length : Int) = (l0_1.length : Int)
 rotate_left
 ·
  rw [if_neg c3] at H
  have c3b0 := bn c3
  have c3b1 : ((l1.length : Int) != (l0_1.length : Int)) = true := bne_iff_ne.mpr c3
  have c3b2 : (l1.length == l0_1.length) = false := by first | simpa using c3 | (simp at c3 ⊢; omega)
  obtain rfl := Option.some.inj H
  go_enter Try.func32, Try.ntmps32
  go_wp2_with (first | ((with_reducible refine gate_dst (N := 2) rfl ?_); refine bxe 2 #[.int .i64 a0_0, .slice A0_1 l0_1.length c0_1] 24 ?_; intro gb474 hg w18 hbox hb; have n0_ := ak (bl hb); have n1_ := ak (hbox); have n2_ := ak ((by rw [hg]; exact (below_size lb) : w.heap.size ≤ gb474)); have n3_ := ak ((by rw [hg]; exact (below_size lb) : w.heap.size ≤ gb474)); clear HB; have HB := n0_; have BK474 := n1_; have GW474 := n2_; have GE474 := n3_; clear n0_ n1_ n2_ n3_; clear hb hbox hg; have hcz19_0 : w18.cell? ⟨gb474, 0, none⟩ = some (.int .i64 a0_0) := (blk_cell BK474.out 0).trans rfl; have hcz19_1 : w18.cell? ⟨gb474, 1, none⟩ = some (.slice A0_1 l0_1.length c0_1) := (blk_cell BK474.out 1).trans rfl; have hfz19_0 := blk_frozen BK474.out 0; have hfz19_1 := blk_frozen BK474.out 1))
  go_ret
  exact ⟨er, lb⟩

 rw [if_pos c3] at H
 have c3b0 := be c3
 have c3b1 : ((l1.length : Int) != (l0_1.length : Int)) = false := bne_eq_false_iff_eq.mpr c3
 have c3b2 : (l1.length == l0_1.length) = true := by first | simpa using c3 | (simp at c3 ⊢; omega)
 clear c3
 have H' := ak H
 clear H
 go_enter Try.func32, Try.ntmps32
 go_wp2_with (first | ((with_reducible refine gate_dst (N := 2) rfl ?_); refine bxe 2 #[.int .i64 a0_0, .slice A0_1 l0_1.length c0_1] 24 ?_; intro gb474 hg w4 hbox hb; have n0_ := ak (bl hb); have n1_ := ak (hbox); have n2_ := ak ((by rw [hg]; exact (below_size lb) : w.heap.size ≤ gb474)); have n3_ := ak ((by rw [hg]; exact (below_size lb) : w.heap.size ≤ gb474)); clear HB; have HB := n0_; have BK474 := n1_; have GW474 := n2_; have GE474 := n3_; clear n0_ n1_ n2_ n3_; clear hb hbox hg; have hcz5_0 : w4.cell? ⟨gb474, 0, none⟩ = some (.int .i64 a0_0) := (blk_cell BK474.out 0).trans rfl; have hcz5_1 : w4.cell? ⟨gb474, 1, none⟩ = some (.slice A0_1 l0_1.length c0_1) := (blk_cell BK474.out 1).trans rfl; have hfz5_0 := blk_frozen BK474.out 0; have hfz5_1 := blk_frozen BK474.out 1))
 go_loopg [5] k (fun kq v5 w' => ∃ (x5_1 : Int), v5 = .int .i64 x5_1 ∧ Aside0 (compassref11_Rounds.l0 kq l1 x5_1 a0_0 l0_1 = some r) ∧ Aside0 (kq ≤ k) ∧ Aside0 (w'.heap[gb474]? = some (.cells #[.int .i64 a0_0, (.slice A0_1 l0_1.length c0_1)] 24 (0, 0))) ∧ Aside0 (Below w.heap.size w w'))
 case atStart => exact ⟨(0), sr, H', ⟨Nat.le_refl _⟩, xb BK474, ⟨lb⟩⟩
 clear H'
 try clear c1; try clear p2; try clear c3; try clear c3b0; try clear c3b1; try clear c3b2; try clear hcz5_0; try clear hcz5_1; try clear hfz5_0; try clear hfz5_1
 obtain ⟨x5_1, rfl, HA, HK1, BK474, HB⟩ := hrel
 cases gk with
 | zero => exact absurd HA.out (by simp [compassref11_Rounds.l0])
 | succ k1 => ?_
 have H := HA.out
 clear HA
 simp only [compassref11_Rounds.l0] at H
 by_cases c6 : x5_1 < (l1.length : Int)
 rotate_left
 ·
  rw [if_neg c6] at H
  have c6b0 := decide_eq_false c6
  clear c6
  have H' := ak H
  clear H
  go_wp2
  go_loopg [6] k1 (fun kq v6 w' => ∃ (x6_2 : Int), v6 = .int .i64 x6_2 ∧ Aside0 (compassref11_Rounds.l1 kq l1 x6_2 a0_0 l0_1 = some r) ∧ Aside0 (kq ≤ k1) ∧ Aside0 (w'.heap[gb474]? = some (.cells #[.int .i64 a0_0, (.slice A0_1 l0_1.length c0_1)] 24 (0, 0))) ∧ Aside0 (Below w.heap.size w w'))
  case atStart => exact ⟨(0), sr, H', ⟨Nat.le_refl _⟩, xb BK474, ⟨lb⟩⟩
  clear H'
  try clear c1; try clear p2; try clear c3; try clear c3b0; try clear c3b1; try clear c3b2; try clear p4; try clear q4; try clear hx4; try clear c6; try clear c6b0; try clear p6; try clear c7; try clear c7b0; try clear c8; try clear c8b0; try clear c9; try clear c9b0; try clear hcz5_0; try clear hcz5_1; try clear hfz5_0; try clear hfz5_1; try clear hx475_0; try clear hx476_0; try clear p2; try clear p475; try clear p476; try clear q475; try clear q476
  obtain ⟨x6_2, rfl, HA, HK2, BK474, HB⟩ := hrel
  cases gk with
  | zero => exact absurd HA.out (by simp [compassref11_Rounds.l1])
  | succ k2 => ?_
  have H := HA.out
  clear HA
  simp only [compassref11_Rounds.l1] at H
  by_cases c10 : x6_2 < a0_0
  rotate_left
  ·
   rw [if_neg c10] at H
   have c10b0 := decide_eq_false c10
   clear c10
   obtain rfl := Option.some.inj H
   have hcz17_0 : wr.cell? ⟨gb474, 0, none⟩ = some (.int .i64 a0_0) := (blk_cell BK474.out 0).trans rfl
   have hcz17_1 : wr.cell? ⟨gb474, 1, none⟩ = some (.slice A0_1 l0_1.length c0_1) := (blk_cell BK474.out 1).trans rfl
   have hfz17_0 := blk_frozen BK474.out 0
   have hfz17_1 := blk_frozen BK474.out 1
   go_wp2
   go_ret
   exact ⟨er, lb⟩
  rw [if_pos c10] at H
  have c10b0 := decide_eq_true c10
  clear c10
  replace H := Option.bind_eq_some_iff.mp H
  obtain ⟨t477, A110, H⟩ := H
  replace H : (if t477 = 0 then (compassref11_Rounds.l1 k2 l1 (wrap64 (x6_2 + 1)) a0_0 l0_1) else (some false)) = some r := H
  have A11 := ak A110
  clear A110
  by_cases c12 : t477 = 0
  rotate_left
  ·
   rw [if_neg c12] at H
   have c12b0 := bn c12
   have c12b1 : (t477 != 0) = true := bne_iff_ne.mpr c12
   obtain rfl := Option.some.inj H
   have hcz15_0 : wr.cell? ⟨gb474, 0, none⟩ = some (.int .i64 a0_0) := (blk_cell BK474.out 0).trans rfl
   have hcz15_1 : wr.cell? ⟨gb474, 1, none⟩ = some (.slice A0_1 l0_1.length c0_1) := (blk_cell BK474.out 1).trans rfl
   have hfz15_0 := blk_frozen BK474.out 0
   have hfz15_1 := blk_frozen BK474.out 1
   go_wp2_with (first | ((with_reducible refine gate_callee (f := 18) rfl ?_); refine gl 40 Try.func18 #[.agg #[.int .i64 a0_0, .slice A0_1 l0_1.length c0_1], .slice A1 l1.length c1, .int .i64 x6_2] ?_; (with_reducible refine (compassref11_Out.calls k2 a0_0 _ _ l0_1 _ _ l1 x6_2 t477 _ (Kd.C_below HR0_1.out lb) HC0_1.out (Kd.C_below HR1.out lb) HC1.out A11.out).mono ?_); rintro e w16 ⟨rfl, hb⟩; refine ⟨_, rfl, ?_⟩; have n0_ := ak (bo BK474 hb); have n1_ := ak (bl hb); clear BK474; clear HB; have BK474 := n0_; have HB := n1_; clear n0_ n1_; clear hb))
   go_ret
   exact ⟨er, lb⟩
  rw [if_pos c12] at H
  have c12b0 := be c12
  have c12b1 : (t477 != 0) = false := bne_eq_false_iff_eq.mpr c12
  clear c12
  have H' := ak H
  clear H
  have hcz13_0 : wr.cell? ⟨gb474, 0, none⟩ = some (.int .i64 a0_0) := (blk_cell BK474.out 0).trans rfl
  have hcz13_1 : wr.cell? ⟨gb474, 1, none⟩ = some (.slice A0_1 l0_1.length c0_1) := (blk_cell BK474.out 1).trans rfl
  have hfz13_0 := blk_frozen BK474.out 0
  have hfz13_1 := blk_frozen BK474.out 1
  go_wp2_with (first | ((with_reducible refine gate_callee (f := 18) rfl ?_); refine gl 40 Try.func18 #[.agg #[.int .i64 a0_0, .slice A0_1 l0_1.length c0_1], .slice A1 l1.length c1, .int .i64 x6_2] ?_; (with_reducible refine (compassref11_Out.calls k2 a0_0 _ _ l0_1 _ _ l1 x6_2 t477 _ (Kd.C_below HR0_1.out lb) HC0_1.out (Kd.C_below HR1.out lb) HC1.out A11.out).mono ?_); rintro e w14 ⟨rfl, hb⟩; refine ⟨_, rfl, ?_⟩; have n0_ := ak (bo BK474 hb); have n1_ := ak (bl hb); clear BK474; clear HB; have BK474 := n0_; have HB := n1_; clear n0_ n1_; clear hb))
  go_roundg k2
  case measure => have := HK1.out; have := HK2.out; omega
  case rel => exact ⟨(wrap64 (x6_2 + 1)), sr, H', ⟨by have := HK1.out; have := HK2.out; omega⟩, xb BK474, ⟨lb⟩⟩
 rw [if_pos c6] at H
 have c6b0 := decide_eq_true c6
 clear c6
 by_cases c7 : 0 ≤ x5_1
 rotate_left
 ·
  rw [if_neg c7] at H
  exact absurd H (by simp)
 rw [if_pos c7] at H
 have c7b0 := decide_eq_true c7
 clear c7
 by_cases c8 : (rd l1 x5_1) < 1
 ·
  rw [if_pos c8] at H
  have c8b0 := decide_eq_true c8
  clear c8
  obtain rfl := Option.some.inj H
  have p475 : 0 ≤ (x5_1 : Int) := oda
  have q475 : x5_1 < (l1.length : Int) := oda
  obtain ⟨ad475, e475, hx475_0⟩ := Kd.at_int HR1.out x5_1 p475 q475
  cases e475
  (try replace hx475_0 := hbc HB hx475_0)
  replace p475 := eq_true p475
  replace q475 := eq_true q475
  go_wp2
  go_ret
  exact ⟨er, lb⟩
 rw [if_neg c8] at H
 have c8b0 := decide_eq_false c8
 clear c8
 by_cases c9 : (rd l1 x5_1) > 1048576
 ·
  rw [if_pos c9] at H
  have c9b0 := decide_eq_true c9
  clear c9
  obtain rfl := Option.some.inj H
  have p475 : 0 ≤ (x5_1 : Int) := oda
  have q475 : x5_1 < (l1.length : Int) := oda
  obtain ⟨ad475, e475, hx475_0⟩ := Kd.at_int HR1.out x5_1 p475 q475
  cases e475
  (try replace hx475_0 := hbc HB hx475_0)
  replace p475 := eq_true p475
  replace q475 := eq_true q475
  have p476 : 0 ≤ (x5_1 : Int) := oda
  have q476 : x5_1 < (l1.length : Int) := oda
  obtain ⟨ad476, e476, hx476_0⟩ := Kd.at_int HR1.out x5_1 p476 q476
  obtain rfl : ad475 = ad476 := (by injection e476)
  (try replace hx476_0 := hbc HB hx476_0)
  replace p476 := eq_true p476
  replace q476 := eq_true q476
  go_wp2
  go_ret
  exact ⟨er, lb⟩
 rw [if_neg c9] at H
 have c9b0 := decide_eq_false c9
 clear c9
 have H' := ak H
 clear H
 have p475 : 0 ≤ (x5_1 : Int) := oda
 have q475 : x5_1 < (l1.length : Int) := oda
 obtain ⟨ad475, e475, hx475_0⟩ := Kd.at_int HR1.out x5_1 p475 q475
 cases e475
 (try replace hx475_0 := hbc HB hx475_0)
 replace p475 := eq_true p475
 replace q475 := eq_true q475
 have p476 : 0 ≤ (x5_1 : Int) := oda
 have q476 : x5_1 < (l1.length : Int) := oda
 obtain ⟨ad476, e476, hx476_0⟩ := Kd.at_int HR1.out x5_1 p476 q476
 obtain rfl : ad475 = ad476 := (by injection e476)
 (try replace hx476_0 := hbc HB hx476_0)
 replace p476 := eq_true p476
 replace q476 := eq_true q476
 go_wp2
 go_roundg k1
 case measure => have := HK1.out; omega
 case rel => exact ⟨(wrap64 (x5_1 + 1)), sr, H', ⟨by have := HK1.out; omega⟩, xb BK474, ⟨lb⟩⟩
end Go.Proofs.Ytkdoihcjhccliaa.Q
