-- PRINTED by print.py (a twelfth state) out of the translation. Not trusted: Lean checks it.
import Derived.Test.YtkdoihcjhccliaaQ0
import Derived.Test.YtkdoihcjhccliaaQ23
namespace Go.Proofs.Ytkdoihcjhccliaa.Q
open Go.RowKit Go.Proofs.YtkdoihcjhccliaaW.PrintWords Go.Proofs.YtkdoihcjhccliaaW.PrintLast Go.Proofs.YtkdoihcjhccliaaW.PrintMore
attribute [local go_sem] max2_int min2_int max_two min_two max_three min_three max_four min_four   -- for this text's walks alone
set_option linter.unusedVariables false
set_option linter.unusedSimpArgs false

/-! ### compassref11_Apart: function 29 -/
mutual
def compassref11_Apart.l0 : Nat → List Bool → Int → Int → Int → Int → List (S98) → Option (Int)
  | 0, _, _, _, _, _, _ => none
  | k + 1, x1, x7, x8, x9, x540000, x540001 => if x9 < (x540001.length : Int) then (if 0 ≤ x9 then (if 0 ≤ ((rd_T98 x540001 x9).f0) then (if ((rd_T98 x540001 x9).f0) < (x1.length : Int) then (if 0 ≤ ((rd_T98 x540001 x9).f1) then (if ((rd_T98 x540001 x9).f1) < (x1.length : Int) then (if rdOf false x1 ((rd_T98 x540001 x9).f0) = true then (compassref11_Apart.j1 k x1 x7 x8 x9 (rdOf false x1 ((rd_T98 x540001 x9).f0)) (rdOf false x1 ((rd_T98 x540001 x9).f1)) (!(rdOf false x1 ((rd_T98 x540001 x9).f1))) x540000 x540001) else (compassref11_Apart.j1 k x1 x7 x8 x9 (rdOf false x1 ((rd_T98 x540001 x9).f0)) (rdOf false x1 ((rd_T98 x540001 x9).f1)) false x540000 x540001)) else (none)) else (none)) else (none)) else (none)) else (none)) else (if x7 = 0 then (some 221) else (if x8 = 0 then (some 221) else (some 0)))
def compassref11_Apart.j1 : Nat → List Bool → Int → Int → Int → Bool → Bool → Bool → Int → List (S98) → Option (Int)
  | 0, _, _, _, _, _, _, _, _, _ => none
  | k + 1, x1, x7, x8, x9, x10, x11, x54, x540000, x540001 => if x54 = true then (some 221) else (if x10 = true then (compassref11_Apart.j2 k x1 x7 x8 x9 x10 x11 true x540000 x540001) else (compassref11_Apart.j2 k x1 x7 x8 x9 x10 x11 x11 x540000 x540001))
def compassref11_Apart.j2 : Nat → List Bool → Int → Int → Int → Bool → Bool → Bool → Int → List (S98) → Option (Int)
  | 0, _, _, _, _, _, _, _, _, _ => none
  | k + 1, x1, x7, x8, x9, x10, x11, x58, x540000, x540001 => if x58 = true then (if x10 = true then (if x11 = true then (compassref11_Apart.l0 k x1 (wrap64 (x7 + 1)) x8 (wrap64 (x9 + 1)) x540000 x540001) else (compassref11_Apart.l0 k x1 (wrap64 (x7 + 1)) (wrap64 (x8 + 1)) (wrap64 (x9 + 1)) x540000 x540001)) else (compassref11_Apart.l0 k x1 (wrap64 (x7 + 1)) (wrap64 (x8 + 1)) (wrap64 (x9 + 1)) x540000 x540001)) else (if x10 = true then (if x11 = true then (compassref11_Apart.l0 k x1 x7 x8 (wrap64 (x9 + 1)) x540000 x540001) else (compassref11_Apart.l0 k x1 x7 (wrap64 (x8 + 1)) (wrap64 (x9 + 1)) x540000 x540001)) else (compassref11_Apart.l0 k x1 x7 (wrap64 (x8 + 1)) (wrap64 (x9 + 1)) x540000 x540001))
end
def compassref11_Apart.f (k : Nat) (a0_0 : Int) (l0_1 : List (S98)) (l1 : List Bool) : Option (Int) := (compassref03_Check.f k a0_0 l0_1).bind fun bt540 => (if bt540.1 = 0 then (if (l1.length : Int) = a0_0 then (compassref11_Apart.l0 k l1 0 0 0 a0_0 l0_1) else (some 221)) else (some bt540.1))
set_option maxHeartbeats 8000000 in
set_option maxRecDepth 100000 in
theorem compassref11_Apart.calls (k : Nat) (a0_0 : Int) (A0_1 : Option Addr) (c0_1 : Nat) (l0_1 : List (S98)) (A1 : Option Addr) (c1 : Nat) (l1 : List Bool) (r : Int) (w : World) (hr0_1 : Kd.C k98 w A0_1 l0_1.length l0_1) (hc0_1 : l0_1.length ≤ c0_1) (hr1 : Kd.C Kd.bool w A1 l1.length l1) (hc1 : l1.length ≤ c1) (h : compassref11_Apart.f k a0_0 l0_1 l1 = some r) :
    Calls Try.prog 29 #[.agg #[.int .i64 a0_0, .slice A0_1 l0_1.length c0_1], .slice A1 l1.length c1] w fun e w' => e = .returned (.int .i64 r) ∧ Below w.heap.size w w' := by
 have hu24 := Try.underlying24
 have HR0_1 := ak hr0_1
 have HC0_1 := ak hc0_1
 clear hr0_1 hc0_1
 have HR1 := ak hr1
 have HC1 := ak hc1
 clear hr1 hc1
 have HB := ak (Below.refl w.heap.size w)
 have H : ((compassref03_Check.f k a0_0 l0_1).bind fun bt540 => (if bt540.1 = 0 then (if (l1.length : Int) = a0_0 then (compassref11_Apart.l0 k l1 0 0 0 a0_0 l0_1) else (some 221)) else (some bt540.1))) = some r := h
 clear h
 replace H := Option.bind_eq_some_iff.mp H
 obtain ⟨⟨t540, t541⟩, A30, H⟩ := H
 replace H : (if t540 = 0 then (if (l1.length : Int) = a0_0 then (compassref11_Apart.l0 k l1 0 0 0 a0_0 l0_1) else (some 221)) else (some t540)) = some r := H
 have A3 := ak A30
 clear A30
 by_cases c4 : t540 = 0
 rotate_left
 ·
  rw [if_neg c4] at H
  have c4b0 := bn c4
  have c4b1 : (t540 != 0) = true := bne_iff_ne.mpr c4
  obtain rfl := Option.some.inj H
  go_enter Try.func29, Try.ntmps29
  go_wp2_with (first | ((with_reducible refine gate_dst (N := 2) rfl ?_); refine bxe 2 #[.int .i64 a0_0, .slice A0_1 l0_1.length c0_1] 24 ?_; intro gb539 hg w37 hbox hb; have n0_ := ak (bl hb); have n1_ := ak (hbox); have n2_ := ak ((by rw [hg]; exact (below_size lb) : w.heap.size ≤ gb539)); have n3_ := ak ((by rw [hg]; exact (below_size lb) : w.heap.size ≤ gb539)); clear HB; have HB := n0_; have BK539 := n1_; have GW539 := n2_; have GE539 := n3_; clear n0_ n1_ n2_ n3_; clear hb hbox hg; have hcz38_0 : w37.cell? ⟨gb539, 0, none⟩ = some (.int .i64 a0_0) := (blk_cell BK539.out 0).trans rfl; have hcz38_1 : w37.cell? ⟨gb539, 1, none⟩ = some (.slice A0_1 l0_1.length c0_1) := (blk_cell BK539.out 1).trans rfl; have hfz38_0 := blk_frozen BK539.out 0; have hfz38_1 := blk_frozen BK539.out 1) | ((with_reducible refine gate_callee (f := 44) rfl ?_); refine gl 14 Try.func44 #[.agg #[.int .i64 a0_0, .slice A0_1 l0_1.length c0_1]] ?_; (with_reducible refine (compassref03_Check.calls k a0_0 _ _ l0_1 t540 t541 _ (Kd.C_below HR0_1.out lb) HC0_1.out A3.out).mono ?_); rintro e w39 ⟨rfl, hb⟩; refine ⟨_, rfl, ?_⟩; have n0_ := ak (bo BK539 hb); have n1_ := ak (bl hb); clear BK539; clear HB; have BK539 := n0_; have HB := n1_; clear n0_ n1_; clear hb))
  go_ret
  exact ⟨er, lb⟩

 rw [if_pos c4] at H
 have c4b0 := be c4
 have c4b1 : (t540 != 0) = false := bne_eq_false_iff_eq.mpr c4
 clear c4
 by_cases c5 : (l1.length : Int) = a0_0
 rotate_left
 ·
  rw [if_neg c5] at H
  have c5b0 := bn c5
  have c5b1 : ((l1.length : Int) != a0_0) = true := bne_iff_ne.mpr c5
  obtain rfl := Option.some.inj H
  go_enter Try.func29, Try.ntmps29
  go_wp2_with (first | ((with_reducible refine gate_dst (N := 2) rfl ?_); refine bxe 2 #[.int .i64 a0_0, .slice A0_1 l0_1.length c0_1] 24 ?_; intro gb539 hg w33 hbox hb; have n0_ := ak (bl hb); have n1_ := ak (hbox); have n2_ := ak ((by rw [hg]; exact (below_size lb) : w.heap.size ≤ gb539)); have n3_ := ak ((by rw [hg]; exact (below_size lb) : w.heap.size ≤ gb539)); clear HB; have HB := n0_; have BK539 := n1_; have GW539 := n2_; have GE539 := n3_; clear n0_ n1_ n2_ n3_; clear hb hbox hg; have hcz34_0 : w33.cell? ⟨gb539, 0, none⟩ = some (.int .i64 a0_0) := (blk_cell BK539.out 0).trans rfl; have hcz34_1 : w33.cell? ⟨gb539, 1, none⟩ = some (.slice A0_1 l0_1.length c0_1) := (blk_cell BK539.out 1).trans rfl; have hfz34_0 := blk_frozen BK539.out 0; have hfz34_1 := blk_frozen BK539.out 1) | ((with_reducible refine gate_callee (f := 44) rfl ?_); refine gl 14 Try.func44 #[.agg #[.int .i64 a0_0, .slice A0_1 l0_1.length c0_1]] ?_; (with_reducible refine (compassref03_Check.calls k a0_0 _ _ l0_1 t540 t541 _ (Kd.C_below HR0_1.out lb) HC0_1.out A3.out).mono ?_); rintro e w35 ⟨rfl, hb⟩; refine ⟨_, rfl, ?_⟩; have n0_ := ak (bo BK539 hb); have n1_ := ak (bl hb); clear BK539; clear HB; have BK539 := n0_; have HB := n1_; clear n0_ n1_; clear hb; have hcz36_0 : w35.cell? ⟨gb539, 0, none⟩ = some (.int .i64 a0_0) := (blk_cell BK539.out 0).trans rfl; have hcz36_1 : w35.cell? ⟨gb539, 1, none⟩ = some (.slice A0_1 l0_1.length c0_1) := (blk_cell BK539.out 1).trans rfl; have hfz36_0 := blk_frozen BK539.out 0; have hfz36_1 := blk_frozen BK539.out 1))
  go_ret
  exact ⟨er, lb⟩
 rw [if_pos c5] at H
 have c5b0 := be c5
 have c5b1 : ((l1.length : Int) != a0_0) = false := bne_eq_false_iff_eq.mpr c5
 clear c5
 have H' := ak H
 clear H
 go_enter Try.func29, Try.ntmps29
 go_wp2_with (first | ((with_reducible refine gate_dst (N := 2) rfl ?_); refine bxe 2 #[.int .i64 a0_0, .slice A0_1 l0_1.length c0_1] 24 ?_; intro gb539 hg w6 hbox hb; have n0_ := ak (bl hb); have n1_ := ak (hbox); have n2_ := ak ((by rw [hg]; exact (below_size lb) : w.heap.size ≤ gb539)); have n3_ := ak ((by rw [hg]; exact (below_size lb) : w.heap.size ≤ gb539)); clear HB; have HB := n0_; have BK539 := n1_; have GW539 := n2_; have GE539 := n3_; clear n0_ n1_ n2_ n3_; clear hb hbox hg; have hcz7_0 : w6.cell? ⟨gb539, 0, none⟩ = some (.int .i64 a0_0) := (blk_cell BK539.out 0).trans rfl; have hcz7_1 : w6.cell? ⟨gb539, 1, none⟩ = some (.slice A0_1 l0_1.length c0_1) := (blk_cell BK539.out 1).trans rfl; have hfz7_0 := blk_frozen BK539.out 0; have hfz7_1 := blk_frozen BK539.out 1) | ((with_reducible refine gate_callee (f := 44) rfl ?_); refine gl 14 Try.func44 #[.agg #[.int .i64 a0_0, .slice A0_1 l0_1.length c0_1]] ?_; (with_reducible refine (compassref03_Check.calls k a0_0 _ _ l0_1 t540 t541 _ (Kd.C_below HR0_1.out lb) HC0_1.out A3.out).mono ?_); rintro e w8 ⟨rfl, hb⟩; refine ⟨_, rfl, ?_⟩; have n0_ := ak (bo BK539 hb); have n1_ := ak (bl hb); clear BK539; clear HB; have BK539 := n0_; have HB := n1_; clear n0_ n1_; clear hb; have hcz9_0 : w8.cell? ⟨gb539, 0, none⟩ = some (.int .i64 a0_0) := (blk_cell BK539.out 0).trans rfl; have hcz9_1 : w8.cell? ⟨gb539, 1, none⟩ = some (.slice A0_1 l0_1.length c0_1) := (blk_cell BK539.out 1).trans rfl; have hfz9_0 := blk_frozen BK539.out 0; have hfz9_1 := blk_frozen BK539.out 1))
 go_loopg [7, 8, 9] k (fun kq v7 v8 v9 w' => ∃ (x7_1 : Int) (x8_1 : Int) (x9_1 : Int), v7 = .int .i64 x7_1 ∧ v8 = .int .i64 x8_1 ∧ v9 = .int .i64 x9_1 ∧ Aside0 (compassref11_Apart.l0 kq l1 x7_1 x8_1 x9_1 a0_0 l0_1 = some r) ∧ Aside0 (kq ≤ k) ∧ Aside0 (w'.heap[gb539]? = some (.cells #[.int .i64 a0_0, (.slice A0_1 l0_1.length c0_1)] 24 (0, 0))) ∧ Aside0 (Below w.heap.size w w'))
 case atStart => exact ⟨(0), (0), (0), sr, sr, sr, H', ⟨Nat.le_refl _⟩, xb BK539, ⟨lb⟩⟩
 clear H'
 try clear c1; try clear c2; try clear p2; try clear c4; try clear c4b0; try clear c4b1; try clear c5; try clear c5b0; try clear c5b1; try clear hcz7_0; try clear hcz7_1; try clear hcz9_0; try clear hcz9_1; try clear hfz7_0; try clear hfz7_1; try clear hfz9_0; try clear hfz9_1
 obtain ⟨x7_1, x8_1, x9_1, rfl, rfl, rfl, HA, HK1, BK539, HB⟩ := hrel
 cases gk with
 | zero => exact absurd HA.out (by simp [compassref11_Apart.l0])
 | succ k1 => ?_
 have H := HA.out
 clear HA
 simp only [compassref11_Apart.l0] at H
 by_cases c10 : x9_1 < (l0_1.length : Int)
 rotate_left
 ·
  rw [if_neg c10] at H
  have c10b0 := decide_eq_false c10
  clear c10
  by_cases c28 : x7_1 = 0
  ·
   rw [if_pos c28] at H
   have c28b0 := be c28
   have c28b1 : (x7_1 != 0) = false := bne_eq_false_iff_eq.mpr c28
   clear c28
   obtain rfl := Option.some.inj H
   have hcz29_0 : wr.cell? ⟨gb539, 0, none⟩ = some (.int .i64 a0_0) := (blk_cell BK539.out 0).trans rfl
   have hcz29_1 : wr.cell? ⟨gb539, 1, none⟩ = some (.slice A0_1 l0_1.length c0_1) := (blk_cell BK539.out 1).trans rfl
   have hfz29_0 := blk_frozen BK539.out 0
   have hfz29_1 := blk_frozen BK539.out 1
   go_wp2
   go_ret
   exact ⟨er, lb⟩
  rw [if_neg c28] at H
  have c28b0 := bn c28
  have c28b1 : (x7_1 != 0) = true := bne_iff_ne.mpr c28
  by_cases c30 : x8_1 = 0
  rotate_left
  ·
   rw [if_neg c30] at H
   have c30b0 := bn c30
   have c30b1 : (x8_1 != 0) = true := bne_iff_ne.mpr c30
   obtain rfl := Option.some.inj H
   have hcz32_0 : wr.cell? ⟨gb539, 0, none⟩ = some (.int .i64 a0_0) := (blk_cell BK539.out 0).trans rfl
   have hcz32_1 : wr.cell? ⟨gb539, 1, none⟩ = some (.slice A0_1 l0_1.length c0_1) := (blk_cell BK539.out 1).trans rfl
   have hfz32_0 := blk_frozen BK539.out 0
   have hfz32_1 := blk_frozen BK539.out 1
   go_wp2
   go_ret
   exact ⟨er, lb⟩
  rw [if_pos c30] at H
  have c30b0 := be c30
  have c30b1 : (x8_1 != 0) = false := bne_eq_false_iff_eq.mpr c30
  clear c30
  obtain rfl := Option.some.inj H
  have hcz31_0 : wr.cell? ⟨gb539, 0, none⟩ = some (.int .i64 a0_0) := (blk_cell BK539.out 0).trans rfl
  have hcz31_1 : wr.cell? ⟨gb539, 1, none⟩ = some (.slice A0_1 l0_1.length c0_1) := (blk_cell BK539.out 1).trans rfl
  have hfz31_0 := blk_frozen BK539.out 0
  have hfz31_1 := blk_frozen BK539.out 1
  go_wp2
  go_ret
  exact ⟨er, lb⟩
 rw [if_pos c10] at H
 have c10b0 := decide_eq_true c10
 clear c10
 by_cases c11 : 0 ≤ x9_1
 rotate_left
 ·
  rw [if_neg c11] at H
  exact absurd H (by simp)
 rw [if_pos c11] at H
 have c11b0 := decide_eq_true c11
 clear c11
 by_cases c12 : 0 ≤ ((rd_T98 l0_1 x9_1).f0)
 rotate_left
 ·
  rw [if_neg c12] at H
  exact absurd H (by simp)
 rw [if_pos c12] at H
 have c12b0 := decide_eq_true c12
 clear c12
 by_cases c13 : ((rd_T98 l0_1 x9_1).f0) < (l1.length : Int)
 rotate_left
 ·
  rw [if_neg c13] at H
  exact absurd H (by simp)
 rw [if_pos c13] at H
 have c13b0 := decide_eq_true c13
 clear c13
 by_cases c14 : 0 ≤ ((rd_T98 l0_1 x9_1).f1)
 rotate_left
 ·
  rw [if_neg c14] at H
  exact absurd H (by simp)
 rw [if_pos c14] at H
 have c14b0 := decide_eq_true c14
 clear c14
 by_cases c15 : ((rd_T98 l0_1 x9_1).f1) < (l1.length : Int)
 rotate_left
 ·
  rw [if_neg c15] at H
  exact absurd H (by simp)
 rw [if_pos c15] at H
 have c15b0 := decide_eq_true c15
 clear c15
 have HC16 := ak H
 clear H
 have hcz17_0 : wr.cell? ⟨gb539, 0, none⟩ = some (.int .i64 a0_0) := (blk_cell BK539.out 0).trans rfl
 have hcz17_1 : wr.cell? ⟨gb539, 1, none⟩ = some (.slice A0_1 l0_1.length c0_1) := (blk_cell BK539.out 1).trans rfl
 have hfz17_0 := blk_frozen BK539.out 0
 have hfz17_1 := blk_frozen BK539.out 1
 have p542 : 0 ≤ (x9_1 : Int) := oda
 have q542 : x9_1 < (l0_1.length : Int) := oda
 obtain ⟨ad542, e542, hx542_0, hx542_1, hx542_2, hx542_3⟩ := at_T98 HR0_1.out x9_1 p542 q542
 cases e542
 (try replace hx542_0 := hbc HB hx542_0)
 (try replace hx542_1 := hbc HB hx542_1)
 (try replace hx542_2 := hbc HB hx542_2)
 (try replace hx542_3 := hbc HB hx542_3)
 replace p542 := eq_true p542
 replace q542 := eq_true q542
 have p543 : 0 ≤ (((rd_T98 l0_1 x9_1).f0) : Int) := oda
 have q543 : ((rd_T98 l0_1 x9_1).f0) < (l1.length : Int) := oda
 obtain ⟨ad543, e543, hx543_0⟩ := Kd.at_bool HR1.out ((rd_T98 l0_1 x9_1).f0) p543 q543
 cases e543
 (try replace hx543_0 := hbc HB hx543_0)
 replace p543 := eq_true p543
 replace q543 := eq_true q543
 have p544 : 0 ≤ (x9_1 : Int) := oda
 have q544 : x9_1 < (l0_1.length : Int) := oda
 obtain ⟨ad544, e544, hx544_0, hx544_1, hx544_2, hx544_3⟩ := at_T98 HR0_1.out x9_1 p544 q544
 obtain rfl : ad542 = ad544 := (by injection e544)
 (try replace hx544_0 := hbc HB hx544_0)
 (try replace hx544_1 := hbc HB hx544_1)
 (try replace hx544_2 := hbc HB hx544_2)
 (try replace hx544_3 := hbc HB hx544_3)
 replace p544 := eq_true p544
 replace q544 := eq_true q544
 have p545 : 0 ≤ (((rd_T98 l0_1 x9_1).f1) : Int) := oda
 have q545 : ((rd_T98 l0_1 x9_1).f1) < (l1.length : Int) := oda
 obtain ⟨ad545, e545, hx545_0⟩ := Kd.at_bool HR1.out ((rd_T98 l0_1 x9_1).f1) p545 q545
 obtain rfl : ad543 = ad545 := (by injection e545)
 (try replace hx545_0 := hbc HB hx545_0)
 replace p545 := eq_true p545
 replace q545 := eq_true q545
 go_upto_region 13 with (fail)
 go_cut [10, 11, 54] (fun v10 v11 v54 wc => ∃ (kq : Nat) (x10_15 : Bool) (x11_15 : Bool) (x54_15 : Bool), v10 = .bool x10_15 ∧ v11 = .bool x11_15 ∧ v54 = .bool x54_15 ∧ Aside0 (compassref11_Apart.j1 kq l1 x7_1 x8_1 x9_1 x10_15 x11_15 x54_15 a0_0 l0_1 = some r) ∧ Aside0 (kq ≤ k1) ∧ Aside0 (wc.heap[gb539]? = some (.cells #[.int .i64 a0_0, (.slice (some ad542) l0_1.length c0_1)] 24 (0, 0))) ∧ Aside0 (Below w.heap.size w wc))
 case first =>
  have H := HC16.out
  clear HC16
  obtain ⟨bq18, hbq18⟩ : ∃ b_ : Bool, b_ = (rdOf false l1 ((rd_T98 l0_1 x9_1).f0)) := ⟨_, rfl⟩
  replace H : (if bq18 = true then (compassref11_Apart.j1 k1 l1 x7_1 x8_1 x9_1 bq18 (rdOf false l1 ((rd_T98 l0_1 x9_1).f1)) (!(rdOf false l1 ((rd_T98 l0_1 x9_1).f1))) a0_0 l0_1) else (compassref11_Apart.j1 k1 l1 x7_1 x8_1 x9_1 bq18 (rdOf false l1 ((rd_T98 l0_1 x9_1).f1)) false a0_0 l0_1)) = some r := by rw [← hbq18] at H; exact H
  have Nbq18 := ak hbq18
  clear hbq18
  (try rw [← Nbq18.out])
  by_cases c19 : bq18 = true
  ·
   subst c19
   have H1 : (compassref11_Apart.j1 k1 l1 x7_1 x8_1 x9_1 true (rdOf false l1 ((rd_T98 l0_1 x9_1).f1)) (!(rdOf false l1 ((rd_T98 l0_1 x9_1).f1))) a0_0 l0_1) = some r := by rw [if_pos rfl] at H; exact H
   clear H
   have H := H1
   clear H1
   have H' := ak H
   clear H
   go_wp2
   go_meet
   case rel => exact ⟨_, (true), (rdOf false l1 ((rd_T98 l0_1 x9_1).f1)), (!(rdOf false l1 ((rd_T98 l0_1 x9_1).f1))), sr, sr, sr, H', ⟨by have := HK1.out; first | omega | exact Nat.le_refl _⟩, xb BK539, ⟨lb⟩⟩
  replace c19 := Bool.eq_false_iff.mpr c19
  subst c19
  have H1 : (compassref11_Apart.j1 k1 l1 x7_1 x8_1 x9_1 false (rdOf false l1 ((rd_T98 l0_1 x9_1).f1)) false a0_0 l0_1) = some r := by rw [if_neg (show ¬ (false = true) by decide)] at H; exact H
  clear H
  have H := H1
  clear H1
  have H' := ak H
  clear H
  go_wp2
  go_meet
  case rel => exact ⟨_, (false), (rdOf false l1 ((rd_T98 l0_1 x9_1).f1)), (false), sr, sr, sr, H', ⟨by have := HK1.out; first | omega | exact Nat.le_refl _⟩, xb BK539, ⟨lb⟩⟩
 case rest =>
  clear HC16
  try clear c1; try clear q1; try clear c2; try clear p2; try clear c4; try clear c4b0; try clear c4b1; try clear c5; try clear c5b0; try clear c5b1; try clear p5; try clear q5; try clear hx5; try clear c10; try clear c10b0; try clear c11; try clear c11b0; try clear c12; try clear c12b0; try clear c13; try clear c13b0; try clear c14; try clear c14b0; try clear c15; try clear c15b0; try clear q18; try clear c19; try clear hcz17_0; try clear hcz17_1; try clear hcz7_0; try clear hcz7_1; try clear hcz9_0; try clear hcz9_1; try clear hfz17_0; try clear hfz17_1; try clear hfz7_0; try clear hfz7_1; try clear hfz9_0; try clear hfz9_1; try clear hx542_0; try clear hx542_1; try clear hx542_2; try clear hx542_3; try clear hx543_0; try clear hx544_0; try clear hx544_1; try clear hx544_2; try clear hx544_3; try clear hx545_0; try clear p2; try clear p542; try clear p543; try clear p544; try clear p545; try clear q542; try clear q543; try clear q544; try clear q545
  obtain ⟨kq, x10_15, x11_15, x54_15, rfl, rfl, rfl, HA, HJ15, BK539, HB⟩ := hcut
  cases kq with
  | zero => exact absurd HA.out (by simp [compassref11_Apart.j1])
  | succ kj15 =>
   have H := HA.out
   clear HA
   simp only [compassref11_Apart.j1] at H
   by_cases c20 : x54_15 = true
   ·
    subst c20
    have H1 : (some 221) = some r := by rw [if_pos rfl] at H; exact H
    clear H
    have H := H1
    clear H1
    obtain rfl := Option.some.inj H
    go_wp2
    go_ret
    exact ⟨er, lb⟩
   replace c20 := Bool.eq_false_iff.mpr c20
   subst c20
   have H1 : (if x10_15 = true then (compassref11_Apart.j2 kj15 l1 x7_1 x8_1 x9_1 x10_15 x11_15 true a0_0 l0_1) else (compassref11_Apart.j2 kj15 l1 x7_1 x8_1 x9_1 x10_15 x11_15 x11_15 a0_0 l0_1)) = some r := by rw [if_neg (show ¬ (false = true) by decide)] at H; exact H
   clear H
   have H := H1
   clear H1
   have HC21 := ak H
   clear H
   go_upto_region 15 with (fail)
   go_cut [58] (fun v58 wc => ∃ (kq : Nat) (x58_20 : Bool), v58 = .bool x58_20 ∧ Aside0 (compassref11_Apart.j2 kq l1 x7_1 x8_1 x9_1 x10_15 x11_15 x58_20 a0_0 l0_1 = some r) ∧ Aside0 (kq ≤ kj15) ∧ Aside0 (wc.heap[gb539]? = some (.cells #[.int .i64 a0_0, (.slice (some ad542) l0_1.length c0_1)] 24 (0, 0))) ∧ Aside0 (Below w.heap.size w wc))
   case first =>
    have H := HC21.out
    clear HC21
    by_cases c22 : x10_15 = true
    ·
     subst c22
     have H1 : (compassref11_Apart.j2 kj15 l1 x7_1 x8_1 x9_1 true x11_15 true a0_0 l0_1) = some r := by rw [if_pos rfl] at H; exact H
     clear H
     have H := H1
     clear H1
     have H' := ak H
     clear H
     go_wp2
     go_meet
     case rel => exact ⟨_, (true), sr, H', ⟨by have := HK1.out; have := HJ15.out; first | omega | exact Nat.le_refl _⟩, xb BK539, ⟨lb⟩⟩
    replace c22 := Bool.eq_false_iff.mpr c22
    subst c22
    have H1 : (compassref11_Apart.j2 kj15 l1 x7_1 x8_1 x9_1 false x11_15 x11_15 a0_0 l0_1) = some r := by rw [if_neg (show ¬ (false = true) by decide)] at H; exact H
    clear H
    have H := H1
    clear H1
    have H' := ak H
    clear H
    go_wp2
    go_meet
    case rel => exact ⟨_, (x11_15), sr, H', ⟨by have := HK1.out; have := HJ15.out; first | omega | exact Nat.le_refl _⟩, xb BK539, ⟨lb⟩⟩
   case rest =>
    clear HC21
    try clear c1; try clear q1; try clear c2; try clear p2; try clear c4; try clear c4b0; try clear c4b1; try clear c5; try clear c5b0; try clear c5b1; try clear p5; try clear q5; try clear hx5; try clear c10; try clear c10b0; try clear c11; try clear c11b0; try clear c12; try clear c12b0; try clear c13; try clear c13b0; try clear c14; try clear c14b0; try clear c15; try clear c15b0; try clear q18; try clear c19; try clear c20; try clear c22; try clear hcz17_0; try clear hcz17_1; try clear hcz7_0; try clear hcz7_1; try clear hcz9_0; try clear hcz9_1; try clear hfz17_0; try clear hfz17_1; try clear hfz7_0; try clear hfz7_1; try clear hfz9_0; try clear hfz9_1; try clear hx542_0; try clear hx542_1; try clear hx542_2; try clear hx542_3; try clear hx543_0; try clear hx544_0; try clear hx544_1; try clear hx544_2; try clear hx544_3; try clear hx545_0; try clear p2; try clear p5; try clear p542; try clear p543; try clear p544; try clear p545; try clear q1; try clear q18; try clear q5; try clear q542; try clear q543; try clear q544; try clear q545
    obtain ⟨kq, x58_20, rfl, HA, HJ20, BK539, HB⟩ := hcut
    cases kq with
    | zero => exact absurd HA.out (by simp [compassref11_Apart.j2])
    | succ kj20 =>
     have H := HA.out
     clear HA
     simp only [compassref11_Apart.j2] at H
     by_cases c23 : x58_20 = true
     ·
      subst c23
      have H1 : (if x10_15 = true then (if x11_15 = true then (compassref11_Apart.l0 kj20 l1 (wrap64 (x7_1 + 1)) x8_1 (wrap64 (x9_1 + 1)) a0_0 l0_1) else (compassref11_Apart.l0 kj20 l1 (wrap64 (x7_1 + 1)) (wrap64 (x8_1 + 1)) (wrap64 (x9_1 + 1)) a0_0 l0_1)) else (compassref11_Apart.l0 kj20 l1 (wrap64 (x7_1 + 1)) (wrap64 (x8_1 + 1)) (wrap64 (x9_1 + 1)) a0_0 l0_1)) = some r := by rw [if_pos rfl] at H; exact H
      clear H
      have H := H1
      clear H1
      by_cases c24 : x10_15 = true
      rotate_left
      ·
       replace c24 := Bool.eq_false_iff.mpr c24
       subst c24
       have H1 : (compassref11_Apart.l0 kj20 l1 (wrap64 (x7_1 + 1)) (wrap64 (x8_1 + 1)) (wrap64 (x9_1 + 1)) a0_0 l0_1) = some r := by rw [if_neg (show ¬ (false = true) by decide)] at H; exact H
       clear H
       have H := H1
       clear H1
       have H' := ak H
       clear H
       go_wp2
       go_roundg kj20
       case measure => have := HK1.out; have := HJ15.out; have := HJ20.out; omega
       case rel => exact ⟨(wrap64 (x7_1 + 1)), (wrap64 (x8_1 + 1)), (wrap64 (x9_1 + 1)), sr, sr, sr, H', ⟨by have := HK1.out; have := HJ15.out; have := HJ20.out; omega⟩, xb BK539, ⟨lb⟩⟩
      subst c24
      have H1 : (if x11_15 = true then (compassref11_Apart.l0 kj20 l1 (wrap64 (x7_1 + 1)) x8_1 (wrap64 (x9_1 + 1)) a0_0 l0_1) else (compassref11_Apart.l0 kj20 l1 (wrap64 (x7_1 + 1)) (wrap64 (x8_1 + 1)) (wrap64 (x9_1 + 1)) a0_0 l0_1)) = some r := by rw [if_pos rfl] at H; exact H
      clear H
      have H := H1
      clear H1
      by_cases c25 : x11_15 = true
      ·
       subst c25
       have H1 : (compassref11_Apart.l0 kj20 l1 (wrap64 (x7_1 + 1)) x8_1 (wrap64 (x9_1 + 1)) a0_0 l0_1) = some r := by rw [if_pos rfl] at H; exact H
       clear H
       have H := H1
       clear H1
       have H' := ak H
       clear H
       go_wp2
       go_roundg kj20
       case measure => have := HK1.out; have := HJ15.out; have := HJ20.out; omega
       case rel => exact ⟨(wrap64 (x7_1 + 1)), (x8_1), (wrap64 (x9_1 + 1)), sr, sr, sr, H', ⟨by have := HK1.out; have := HJ15.out; have := HJ20.out; omega⟩, xb BK539, ⟨lb⟩⟩
      replace c25 := Bool.eq_false_iff.mpr c25
      subst c25
      have H1 : (compassref11_Apart.l0 kj20 l1 (wrap64 (x7_1 + 1)) (wrap64 (x8_1 + 1)) (wrap64 (x9_1 + 1)) a0_0 l0_1) = some r := by rw [if_neg (show ¬ (false = true) by decide)] at H; exact H
      clear H
      have H := H1
      clear H1
      have H' := ak H
      clear H
      go_wp2
      go_roundg kj20
      case measure => have := HK1.out; have := HJ15.out; have := HJ20.out; omega
      case rel => exact ⟨(wrap64 (x7_1 + 1)), (wrap64 (x8_1 + 1)), (wrap64 (x9_1 + 1)), sr, sr, sr, H', ⟨by have := HK1.out; have := HJ15.out; have := HJ20.out; omega⟩, xb BK539, ⟨lb⟩⟩
     replace c23 := Bool.eq_false_iff.mpr c23
     subst c23
     have H1 : (if x10_15 = true then (if x11_15 = true then (compassref11_Apart.l0 kj20 l1 x7_1 x8_1 (wrap64 (x9_1 + 1)) a0_0 l0_1) else (compassref11_Apart.l0 kj20 l1 x7_1 (wrap64 (x8_1 + 1)) (wrap64 (x9_1 + 1)) a0_0 l0_1)) else (compassref11_Apart.l0 kj20 l1 x7_1 (wrap64 (x8_1 + 1)) (wrap64 (x9_1 + 1)) a0_0 l0_1)) = some r := by rw [if_neg (show ¬ (false = true) by decide)] at H; exact H
     clear H
     have H := H1
     clear H1
     by_cases c26 : x10_15 = true
     rotate_left
     ·
      replace c26 := Bool.eq_false_iff.mpr c26
      subst c26
      have H1 : (compassref11_Apart.l0 kj20 l1 x7_1 (wrap64 (x8_1 + 1)) (wrap64 (x9_1 + 1)) a0_0 l0_1) = some r := by rw [if_neg (show ¬ (false = true) by decide)] at H; exact H
      clear H
      have H := H1
      clear H1
      have H' := ak H
      clear H
      go_wp2
      go_roundg kj20
      case measure => have := HK1.out; have := HJ15.out; have := HJ20.out; omega
      case rel => exact ⟨(x7_1), (wrap64 (x8_1 + 1)), (wrap64 (x9_1 + 1)), sr, sr, sr, H', ⟨by have := HK1.out; have := HJ15.out; have := HJ20.out; omega⟩, xb BK539, ⟨lb⟩⟩
     subst c26
     have H1 : (if x11_15 = true then (compassref11_Apart.l0 kj20 l1 x7_1 x8_1 (wrap64 (x9_1 + 1)) a0_0 l0_1) else (compassref11_Apart.l0 kj20 l1 x7_1 (wrap64 (x8_1 + 1)) (wrap64 (x9_1 + 1)) a0_0 l0_1)) = some r := by rw [if_pos rfl] at H; exact H
     clear H
     have H := H1
     clear H1
     by_cases c27 : x11_15 = true
     ·
      subst c27
      have H1 : (compassref11_Apart.l0 kj20 l1 x7_1 x8_1 (wrap64 (x9_1 + 1)) a0_0 l0_1) = some r := by rw [if_pos rfl] at H; exact H
      clear H
      have H := H1
      clear H1
      have H' := ak H
      clear H
      go_wp2
      go_roundg kj20
      case measure => have := HK1.out; have := HJ15.out; have := HJ20.out; omega
      case rel => exact ⟨(x7_1), (x8_1), (wrap64 (x9_1 + 1)), sr, sr, sr, H', ⟨by have := HK1.out; have := HJ15.out; have := HJ20.out; omega⟩, xb BK539, ⟨lb⟩⟩
     replace c27 := Bool.eq_false_iff.mpr c27
     subst c27
     have H1 : (compassref11_Apart.l0 kj20 l1 x7_1 (wrap64 (x8_1 + 1)) (wrap64 (x9_1 + 1)) a0_0 l0_1) = some r := by rw [if_neg (show ¬ (false = true) by decide)] at H; exact H
     clear H
     have H := H1
     clear H1
     have H' := ak H
     clear H
     go_wp2
     go_roundg kj20
     case measure => have := HK1.out; have := HJ15.out; have := HJ20.out; omega
     case rel => exact ⟨(x7_1), (wrap64 (x8_1 + 1)), (wrap64 (x9_1 + 1)), sr, sr, sr, H', ⟨by have := HK1.out; have := HJ15.out; have := HJ20.out; omega⟩, xb BK539, ⟨lb⟩⟩
end Go.Proofs.Ytkdoihcjhccliaa.Q
