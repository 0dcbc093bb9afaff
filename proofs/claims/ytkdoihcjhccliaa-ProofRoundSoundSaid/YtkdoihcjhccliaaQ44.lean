-- PRINTED by print.py (a twelfth state) out of the translation. Not trusted: Lean checks it.
import Derived.Test.YtkdoihcjhccliaaQ0
import Derived.Test.YtkdoihcjhccliaaQ43
namespace Go.Proofs.Ytkdoihcjhccliaa.Q
open Go.RowKit Go.Proofs.YtkdoihcjhccliaaW.PrintWords Go.Proofs.YtkdoihcjhccliaaW.PrintLast Go.Proofs.YtkdoihcjhccliaaW.PrintMore
attribute [local go_sem] max2_int min2_int max_two min_two max_three min_three max_four min_four   -- for this text's walks alone
set_option linter.unusedVariables false
set_option linter.unusedSimpArgs false

/-! ### compassref11_Together: function 68 -/
def compassref11_Together.l0 : Nat → List Int → Int → Int → List (S98) → Option (Bool)
  | 0, _, _, _, _ => none
  | k + 1, x3, x5, x509000, x509001 => if x5 < (x509001.length : Int) then (if 0 ≤ x5 then (if 0 ≤ ((rd_T98 x509001 x5).f0) then (if ((rd_T98 x509001 x5).f0) < (x3.length : Int) then (if 0 < (x509001.length : Int) then (if 0 ≤ ((rd_T98 x509001 0).f0) then (if ((rd_T98 x509001 0).f0) < (x3.length : Int) then (if (rd x3 ((rd_T98 x509001 x5).f0)) = (rd x3 ((rd_T98 x509001 0).f0)) then (compassref11_Together.l0 k x3 (wrap64 (x5 + 1)) x509000 x509001) else (some false)) else (none)) else (none)) else (none)) else (none)) else (none)) else (none)) else (some true)
def compassref11_Together.f (k : Nat) (a0_0 : Int) (l0_1 : List (S98)) : Option (Bool) := (compassref04_Parts.f k a0_0 l0_1).bind fun bt509 => (compassref11_Together.l0 k bt509.1 1 a0_0 l0_1)
set_option maxHeartbeats 8000000 in
set_option maxRecDepth 100000 in
theorem compassref11_Together.calls (k : Nat) (a0_0 : Int) (A0_1 : Option Addr) (c0_1 : Nat) (l0_1 : List (S98)) (r : Bool) (w : World) (hr0_1 : Kd.C k98 w A0_1 l0_1.length l0_1) (hc0_1 : l0_1.length ≤ c0_1) (h : compassref11_Together.f k a0_0 l0_1 = some r) :
    Calls Try.prog 68 #[.agg #[.int .i64 a0_0, .slice A0_1 l0_1.length c0_1]] w fun e w' => e = .returned (.bool r) ∧ Below w.heap.size w w' := by
 have hu24 := Try.underlying24
 have HR0_1 := ak hr0_1
 have HC0_1 := ak hc0_1
 clear hr0_1 hc0_1
 have HB := ak (Below.refl w.heap.size w)
 have H : ((compassref04_Parts.f k a0_0 l0_1).bind fun bt509 => (compassref11_Together.l0 k bt509.1 1 a0_0 l0_1)) = some r := h
 clear h
 replace H := Option.bind_eq_some_iff.mp H
 obtain ⟨⟨t509, t512⟩, A20, H⟩ := H
 replace H : (compassref11_Together.l0 k t509 1 a0_0 l0_1) = some r := H
 have A2 := ak A20
 clear A20
 have H' := ak H
 clear H
 go_enter Try.func68, Try.ntmps68
 go_wp2_with (first | ((with_reducible refine gate_dst (N := 1) rfl ?_); refine bxe 1 #[.int .i64 a0_0, .slice A0_1 l0_1.length c0_1] 24 ?_; intro gb508 hg w3 hbox hb; have n0_ := ak (bl hb); have n1_ := ak (hbox); have n2_ := ak ((by rw [hg]; exact (below_size lb) : w.heap.size ≤ gb508)); have n3_ := ak ((by rw [hg]; exact (below_size lb) : w.heap.size ≤ gb508)); clear HB; have HB := n0_; have BK508 := n1_; have GW508 := n2_; have GE508 := n3_; clear n0_ n1_ n2_ n3_; clear hb hbox hg; have hcz4_0 : w3.cell? ⟨gb508, 0, none⟩ = some (.int .i64 a0_0) := (blk_cell BK508.out 0).trans rfl; have hcz4_1 : w3.cell? ⟨gb508, 1, none⟩ = some (.slice A0_1 l0_1.length c0_1) := (blk_cell BK508.out 1).trans rfl; have hfz4_0 := blk_frozen BK508.out 0; have hfz4_1 := blk_frozen BK508.out 1) | (go_at_call 88; (with_reducible refine (compassref04_Parts.calls k a0_0 _ _ l0_1 t509 t512 _ (Kd.C_below HR0_1.out lb) HC0_1.out A2.out).mono ?_); rintro e w5 ⟨v510, rfl, ho0, hb⟩; have n0_ := ak (Kd.R_lower ho0 (below_size lb)); have n1_ := ak (bo BK508 hb); have n2_ := ak (bl hb); clear BK508; clear HB; have HO511 := n0_; have BK508 := n1_; have HB := n2_; clear n0_ n1_ n2_; clear hb; (try clear ho0)))
 repeat (go_quiet (first | ((with_reducible refine gate_dst (N := 1) rfl ?_); refine bxe 1 #[.int .i64 a0_0, .slice A0_1 l0_1.length c0_1] 24 ?_; intro gb508 hg w3 hbox hb; have n0_ := ak (bl hb); have n1_ := ak (hbox); have n2_ := ak ((by rw [hg]; exact (below_size lb) : w.heap.size ≤ gb508)); have n3_ := ak ((by rw [hg]; exact (below_size lb) : w.heap.size ≤ gb508)); clear HB; have HB := n0_; have BK508 := n1_; have GW508 := n2_; have GE508 := n3_; clear n0_ n1_ n2_ n3_; clear hb hbox hg; have hcz4_0 : w3.cell? ⟨gb508, 0, none⟩ = some (.int .i64 a0_0) := (blk_cell BK508.out 0).trans rfl; have hcz4_1 : w3.cell? ⟨gb508, 1, none⟩ = some (.slice A0_1 l0_1.length c0_1) := (blk_cell BK508.out 1).trans rfl; have hfz4_0 := blk_frozen BK508.out 0; have hfz4_1 := blk_frozen BK508.out 1) | (go_at_call 88; (with_reducible refine (compassref04_Parts.calls k a0_0 _ _ l0_1 t509 t512 _ (Kd.C_below HR0_1.out lb) HC0_1.out A2.out).mono ?_); rintro e w5 ⟨v510, rfl, ho0, hb⟩; have n0_ := ak (Kd.R_lower ho0 (below_size lb)); have n1_ := ak (bo BK508 hb); have n2_ := ak (bl hb); clear BK508; clear HB; have HO511 := n0_; have BK508 := n1_; have HB := n2_; clear n0_ n1_ n2_; clear hb; (try clear ho0))); try go_wp2_with (first | ((with_reducible refine gate_dst (N := 1) rfl ?_); refine bxe 1 #[.int .i64 a0_0, .slice A0_1 l0_1.length c0_1] 24 ?_; intro gb508 hg w3 hbox hb; have n0_ := ak (bl hb); have n1_ := ak (hbox); have n2_ := ak ((by rw [hg]; exact (below_size lb) : w.heap.size ≤ gb508)); have n3_ := ak ((by rw [hg]; exact (below_size lb) : w.heap.size ≤ gb508)); clear HB; have HB := n0_; have BK508 := n1_; have GW508 := n2_; have GE508 := n3_; clear n0_ n1_ n2_ n3_; clear hb hbox hg; have hcz4_0 : w3.cell? ⟨gb508, 0, none⟩ = some (.int .i64 a0_0) := (blk_cell BK508.out 0).trans rfl; have hcz4_1 : w3.cell? ⟨gb508, 1, none⟩ = some (.slice A0_1 l0_1.length c0_1) := (blk_cell BK508.out 1).trans rfl; have hfz4_0 := blk_frozen BK508.out 0; have hfz4_1 := blk_frozen BK508.out 1) | (go_at_call 88; (with_reducible refine (compassref04_Parts.calls k a0_0 _ _ l0_1 t509 t512 _ (Kd.C_below HR0_1.out lb) HC0_1.out A2.out).mono ?_); rintro e w5 ⟨v510, rfl, ho0, hb⟩; have n0_ := ak (Kd.R_lower ho0 (below_size lb)); have n1_ := ak (bo BK508 hb); have n2_ := ak (bl hb); clear BK508; clear HB; have HO511 := n0_; have BK508 := n1_; have HB := n2_; clear n0_ n1_ n2_; clear hb; (try clear ho0))))
 go_loopg [5] k (fun kq v5 w' => ∃ (x5_1 : Int), v5 = .int .i64 x5_1 ∧ Aside0 (compassref11_Together.l0 kq t509 x5_1 a0_0 l0_1 = some r) ∧ Aside0 (kq ≤ k) ∧ Aside0 (Kd.R (Kd.int .i64) 3 w' w.heap.size (fun _ => True) v510 t509) ∧ Aside0 (w'.heap[gb508]? = some (.cells #[.int .i64 a0_0, (.slice A0_1 l0_1.length c0_1)] 24 (0, 0))) ∧ Aside0 (Below w.heap.size w w'))
 case atStart => exact ⟨(1), sr, H', ⟨Nat.le_refl _⟩, ⟨rx HO511.out⟩, xb BK508, ⟨lb⟩⟩
 clear H'
 try clear p2; try clear hcz4_0; try clear hcz4_1; try clear hfz4_0; try clear hfz4_1
 obtain ⟨x5_1, rfl, HA, HK1, HO_3, BK508, HB⟩ := hrel
 cases gk with
 | zero => exact absurd HA.out (by simp [compassref11_Together.l0])
 | succ k1 => ?_
 have H := HA.out
 clear HA
 simp only [compassref11_Together.l0] at H
 by_cases c6 : x5_1 < (l0_1.length : Int)
 rotate_left
 ·
  rw [if_neg c6] at H
  have c6b0 := decide_eq_false c6
  clear c6
  obtain rfl := Option.some.inj H
  have hcz18_0 : wr.cell? ⟨gb508, 0, none⟩ = some (.int .i64 a0_0) := (blk_cell BK508.out 0).trans rfl
  have hcz18_1 : wr.cell? ⟨gb508, 1, none⟩ = some (.slice A0_1 l0_1.length c0_1) := (blk_cell BK508.out 1).trans rfl
  have hfz18_0 := blk_frozen BK508.out 0
  have hfz18_1 := blk_frozen BK508.out 1
  go_wp2
  repeat (go_quiet (fail); try go_wp2)
  go_ret
  exact ⟨er, lb⟩

 rw [if_pos c6] at H
 have c6b0 := decide_eq_true c6
 clear c6
 by_cases c7 : 0 ≤ x5_1
 rotate_left
 ·
  rw [if_neg c7] at H
  exact absurd H (by simp)
 rw [if_pos c7] at H
 have c7b0 := decide_eq_true c7
 clear c7
 by_cases c8 : 0 ≤ ((rd_T98 l0_1 x5_1).f0)
 rotate_left
 ·
  rw [if_neg c8] at H
  exact absurd H (by simp)
 rw [if_pos c8] at H
 have c8b0 := decide_eq_true c8
 clear c8
 by_cases c9 : ((rd_T98 l0_1 x5_1).f0) < (t509.length : Int)
 rotate_left
 ·
  rw [if_neg c9] at H
  exact absurd H (by simp)
 rw [if_pos c9] at H
 have c9b0 := decide_eq_true c9
 clear c9
 by_cases c10 : 0 < (l0_1.length : Int)
 rotate_left
 ·
  rw [if_neg c10] at H
  exact absurd H (by simp)
 rw [if_pos c10] at H
 have c10b0 := decide_eq_true c10
 have c10b1 : decide (0 < l0_1.length) = true := decide_eq_true (by omega)
 clear c10
 by_cases c11 : 0 ≤ ((rd_T98 l0_1 0).f0)
 rotate_left
 ·
  rw [if_neg c11] at H
  exact absurd H (by simp)
 rw [if_pos c11] at H
 have c11b0 := decide_eq_true c11
 clear c11
 by_cases c12 : ((rd_T98 l0_1 0).f0) < (t509.length : Int)
 rotate_left
 ·
  rw [if_neg c12] at H
  exact absurd H (by simp)
 rw [if_pos c12] at H
 have c12b0 := decide_eq_true c12
 clear c12
 by_cases c13 : (rd t509 ((rd_T98 l0_1 x5_1).f0)) = (rd t509 ((rd_T98 l0_1 0).f0))
 rotate_left
 ·
  rw [if_neg c13] at H
  have c13b0 := bn c13
  have c13b1 : ((rd t509 ((rd_T98 l0_1 x5_1).f0)) != (rd t509 ((rd_T98 l0_1 0).f0))) = true := bne_iff_ne.mpr c13
  obtain rfl := Option.some.inj H
  have hcz16_0 : wr.cell? ⟨gb508, 0, none⟩ = some (.int .i64 a0_0) := (blk_cell BK508.out 0).trans rfl
  have hcz16_1 : wr.cell? ⟨gb508, 1, none⟩ = some (.slice A0_1 l0_1.length c0_1) := (blk_cell BK508.out 1).trans rfl
  have hfz16_0 := blk_frozen BK508.out 0
  have hfz16_1 := blk_frozen BK508.out 1
  have p513 : 0 ≤ (x5_1 : Int) := oda
  have q513 : x5_1 < (l0_1.length : Int) := oda
  obtain ⟨ad513, e513, hx513_0, hx513_1, hx513_2, hx513_3⟩ := at_T98 HR0_1.out x5_1 p513 q513
  cases e513
  (try replace hx513_0 := hbc HB hx513_0)
  (try replace hx513_1 := hbc HB hx513_1)
  (try replace hx513_2 := hbc HB hx513_2)
  (try replace hx513_3 := hbc HB hx513_3)
  replace p513 := eq_true p513
  replace q513 := eq_true q513
  obtain ⟨Ao17, co17, eo17⟩ := Kd.R_slice HO_3.out
  subst eo17
  have p514 : 0 ≤ (((rd_T98 l0_1 x5_1).f0) : Int) := oda
  have q514 : ((rd_T98 l0_1 x5_1).f0) < (t509.length : Int) := oda
  obtain ⟨ad514, e514, hx514_0⟩ := Kd.at_int (Kd.R_reads' HO_3.out).2.2 ((rd_T98 l0_1 x5_1).f0) p514 q514
  cases e514
  replace p514 := eq_true p514
  replace q514 := eq_true q514
  have p515 : 0 ≤ (0 : Int) := (by omega)
  have q515 : 0 < (l0_1.length : Int) := oda
  obtain ⟨ad515, e515, hx515_0, hx515_1, hx515_2, hx515_3⟩ := at_T98 HR0_1.out 0 p515 q515
  obtain rfl : ad513 = ad515 := (by injection e515)
  have qi515 : (0 < l0_1.length) = True := eq_true (by omega)
  (try rw [show ((0 : Int)).toNat = 0 from rfl] at hx515_0)
  (try rw [show 0 * 4 = 0 from rfl] at hx515_0)
  (try rw [Addr.add_zero'] at hx515_0)
  (try rw [show ((0 : Int)).toNat = 0 from rfl] at hx515_1)
  (try rw [show 0 * 4 = 0 from rfl] at hx515_1)
  (try rw [Addr.add_zero'] at hx515_1)
  (try rw [show ((0 : Int)).toNat = 0 from rfl] at hx515_2)
  (try rw [show 0 * 4 = 0 from rfl] at hx515_2)
  (try rw [Addr.add_zero'] at hx515_2)
  (try rw [show ((0 : Int)).toNat = 0 from rfl] at hx515_3)
  (try rw [show 0 * 4 = 0 from rfl] at hx515_3)
  (try rw [Addr.add_zero'] at hx515_3)
  (try replace hx515_0 := hbc HB hx515_0)
  (try replace hx515_1 := hbc HB hx515_1)
  (try replace hx515_2 := hbc HB hx515_2)
  (try replace hx515_3 := hbc HB hx515_3)
  replace p515 := eq_true p515
  replace q515 := eq_true q515
  have p516 : 0 ≤ (((rd_T98 l0_1 0).f0) : Int) := oda
  have q516 : ((rd_T98 l0_1 0).f0) < (t509.length : Int) := oda
  obtain ⟨ad516, e516, hx516_0⟩ := Kd.at_int (Kd.R_reads' HO_3.out).2.2 ((rd_T98 l0_1 0).f0) p516 q516
  obtain rfl : ad514 = ad516 := (by injection e516)
  replace p516 := eq_true p516
  replace q516 := eq_true q516
  go_wp2
  repeat (go_quiet (fail); try go_wp2)
  go_ret
  exact ⟨er, lb⟩
 rw [if_pos c13] at H
 have c13b0 := be c13
 have c13b1 : ((rd t509 ((rd_T98 l0_1 x5_1).f0)) != (rd t509 ((rd_T98 l0_1 0).f0))) = false := bne_eq_false_iff_eq.mpr c13
 clear c13
 have H' := ak H
 clear H
 have hcz14_0 : wr.cell? ⟨gb508, 0, none⟩ = some (.int .i64 a0_0) := (blk_cell BK508.out 0).trans rfl
 have hcz14_1 : wr.cell? ⟨gb508, 1, none⟩ = some (.slice A0_1 l0_1.length c0_1) := (blk_cell BK508.out 1).trans rfl
 have hfz14_0 := blk_frozen BK508.out 0
 have hfz14_1 := blk_frozen BK508.out 1
 have p513 : 0 ≤ (x5_1 : Int) := oda
 have q513 : x5_1 < (l0_1.length : Int) := oda
 obtain ⟨ad513, e513, hx513_0, hx513_1, hx513_2, hx513_3⟩ := at_T98 HR0_1.out x5_1 p513 q513
 cases e513
 (try replace hx513_0 := hbc HB hx513_0)
 (try replace hx513_1 := hbc HB hx513_1)
 (try replace hx513_2 := hbc HB hx513_2)
 (try replace hx513_3 := hbc HB hx513_3)
 replace p513 := eq_true p513
 replace q513 := eq_true q513
 obtain ⟨Ao15, co15, eo15⟩ := Kd.R_slice HO_3.out
 subst eo15
 have p514 : 0 ≤ (((rd_T98 l0_1 x5_1).f0) : Int) := oda
 have q514 : ((rd_T98 l0_1 x5_1).f0) < (t509.length : Int) := oda
 obtain ⟨ad514, e514, hx514_0⟩ := Kd.at_int (Kd.R_reads' HO_3.out).2.2 ((rd_T98 l0_1 x5_1).f0) p514 q514
 cases e514
 replace p514 := eq_true p514
 replace q514 := eq_true q514
 have p515 : 0 ≤ (0 : Int) := (by omega)
 have q515 : 0 < (l0_1.length : Int) := oda
 obtain ⟨ad515, e515, hx515_0, hx515_1, hx515_2, hx515_3⟩ := at_T98 HR0_1.out 0 p515 q515
 obtain rfl : ad513 = ad515 := (by injection e515)
 have qi515 : (0 < l0_1.length) = True := eq_true (by omega)
 (try rw [show ((0 : Int)).toNat = 0 from rfl] at hx515_0)
 (try rw [show 0 * 4 = 0 from rfl] at hx515_0)
 (try rw [Addr.add_zero'] at hx515_0)
 (try rw [show ((0 : Int)).toNat = 0 from rfl] at hx515_1)
 (try rw [show 0 * 4 = 0 from rfl] at hx515_1)
 (try rw [Addr.add_zero'] at hx515_1)
 (try rw [show ((0 : Int)).toNat = 0 from rfl] at hx515_2)
 (try rw [show 0 * 4 = 0 from rfl] at hx515_2)
 (try rw [Addr.add_zero'] at hx515_2)
 (try rw [show ((0 : Int)).toNat = 0 from rfl] at hx515_3)
 (try rw [show 0 * 4 = 0 from rfl] at hx515_3)
 (try rw [Addr.add_zero'] at hx515_3)
 (try replace hx515_0 := hbc HB hx515_0)
 (try replace hx515_1 := hbc HB hx515_1)
 (try replace hx515_2 := hbc HB hx515_2)
 (try replace hx515_3 := hbc HB hx515_3)
 replace p515 := eq_true p515
 replace q515 := eq_true q515
 have p516 : 0 ≤ (((rd_T98 l0_1 0).f0) : Int) := oda
 have q516 : ((rd_T98 l0_1 0).f0) < (t509.length : Int) := oda
 obtain ⟨ad516, e516, hx516_0⟩ := Kd.at_int (Kd.R_reads' HO_3.out).2.2 ((rd_T98 l0_1 0).f0) p516 q516
 obtain rfl : ad514 = ad516 := (by injection e516)
 replace p516 := eq_true p516
 replace q516 := eq_true q516
 go_wp2
 repeat (go_quiet (fail); try go_wp2)
 go_roundg k1
 case measure => have := HK1.out; omega
 case rel => exact ⟨(wrap64 (x5_1 + 1)), sr, H', ⟨by have := HK1.out; omega⟩, ⟨rx HO_3.out⟩, xb BK508, ⟨lb⟩⟩
end Go.Proofs.Ytkdoihcjhccliaa.Q
