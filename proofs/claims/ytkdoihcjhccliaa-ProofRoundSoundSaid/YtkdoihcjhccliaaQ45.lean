-- PRINTED by print.py (a twelfth state) out of the translation. Not trusted: Lean checks it.
import Derived.Test.YtkdoihcjhccliaaQ0
import Derived.Test.YtkdoihcjhccliaaQ27
import Derived.Test.YtkdoihcjhccliaaQ28
import Derived.Test.YtkdoihcjhccliaaQ40
import Derived.Test.YtkdoihcjhccliaaQ41
import Derived.Test.YtkdoihcjhccliaaQ44
namespace Go.Proofs.Ytkdoihcjhccliaa.Q
open Go.RowKit Go.Proofs.YtkdoihcjhccliaaW.PrintWords Go.Proofs.YtkdoihcjhccliaaW.PrintLast Go.Proofs.YtkdoihcjhccliaaW.PrintMore
attribute [local go_sem] max2_int min2_int max_two min_two max_three min_three max_four min_four   -- for this text's walks alone
set_option linter.unusedVariables false
set_option linter.unusedSimpArgs false

/-! ### compassref11_Postman: function 27 -/
mutual
def compassref11_Postman.j0 : Nat → List Int → List Int → Bool → Int → List (S98) → Option (Int × Int)
  | 0, _, _, _, _, _ => none
  | k + 1, x1, x2, x30, x518000, x518001 => if x30 = true then (some (0, 221)) else (compassref11_Postman.l0 k x1 x2 0 x518000 x518001)
def compassref11_Postman.l0 : Nat → List Int → List Int → Int → Int → List (S98) → Option (Int × Int)
  | 0, _, _, _, _, _ => none
  | k + 1, x1, x2, x9, x518000, x518001 => if x9 < (x1.length : Int) then (if 0 ≤ x9 then (if x9 < (x518001.length : Int) then ((compassref11_Reduced.f ((rd_T98 x518001 x9).f0) ((rd_T98 x518001 x9).f1) ((rd_T98 x518001 x9).f2) ((rd_T98 x518001 x9).f3) x2).bind fun t523 => (if t523 < 0 then (some (0, 221)) else (if t523 > 0 then (if (rd x1 x9) > 1 then (some (0, 221)) else (compassref11_Postman.l0 k x1 x2 (wrap64 (x9 + 1)) x518000 x518001)) else (compassref11_Postman.l0 k x1 x2 (wrap64 (x9 + 1)) x518000 x518001)))) else (none)) else (none)) else ((compassref11_Total.f k x518000 x518001 x1).bind fun t525 => (some (t525, 0)))
end
def compassref11_Postman.f (k : Nat) (a0_0 : Int) (l0_1 : List (S98)) (l1 : List Int) (l2 : List Int) : Option (Int × Int) := (compassref11_Costs.f k a0_0 l0_1).bind fun t518 => (if t518 = 0 then ((compassref11_Rounds.f k a0_0 l0_1 l1).bind fun t519 => (if t519 = true then ((compassref11_Together.f k a0_0 l0_1).bind fun t520 => (if t520 = true then ((compassref11_Pots.f k a0_0 l0_1 l2).bind fun t521 => (compassref11_Postman.j0 k l1 l2 (!t521) a0_0 l0_1)) else (compassref11_Postman.j0 k l1 l2 true a0_0 l0_1))) else (compassref11_Postman.j0 k l1 l2 true a0_0 l0_1))) else (some (0, t518)))
set_option maxHeartbeats 8000000 in
set_option maxRecDepth 100000 in
theorem compassref11_Postman.calls (k : Nat) (a0_0 : Int) (A0_1 : Option Addr) (c0_1 : Nat) (l0_1 : List (S98)) (A1 : Option Addr) (c1 : Nat) (l1 : List Int) (A2 : Option Addr) (c2 : Nat) (l2 : List Int) (r1 : Int) (r2 : Int) (w : World) (hr0_1 : Kd.C k98 w A0_1 l0_1.length l0_1) (hc0_1 : l0_1.length ≤ c0_1) (hr1 : Kd.C (Kd.int .i64) w A1 l1.length l1) (hc1 : l1.length ≤ c1) (hr2 : Kd.C (Kd.int .i64) w A2 l2.length l2) (hc2 : l2.length ≤ c2) (h : compassref11_Postman.f k a0_0 l0_1 l1 l2 = some (r1, r2)) :
    Calls Try.prog 27 #[.agg #[.int .i64 a0_0, .slice A0_1 l0_1.length c0_1], .slice A1 l1.length c1, .slice A2 l2.length c2] w fun e w' => e = .returned (.tuple #[.int .i64 r1, .int .i64 r2]) ∧ Below w.heap.size w w' := by
 have hu24 := Try.underlying24
 have hu98 := Try.underlying98
 have HR0_1 := ak hr0_1
 have HC0_1 := ak hc0_1
 clear hr0_1 hc0_1
 have HR1 := ak hr1
 have HC1 := ak hc1
 clear hr1 hc1
 have HR2 := ak hr2
 have HC2 := ak hc2
 clear hr2 hc2
 have HB := ak (Below.refl w.heap.size w)
 have H : ((compassref11_Costs.f k a0_0 l0_1).bind fun t518 => (if t518 = 0 then ((compassref11_Rounds.f k a0_0 l0_1 l1).bind fun t519 => (if t519 = true then ((compassref11_Together.f k a0_0 l0_1).bind fun t520 => (if t520 = true then ((compassref11_Pots.f k a0_0 l0_1 l2).bind fun t521 => (compassref11_Postman.j0 k l1 l2 (!t521) a0_0 l0_1)) else (compassref11_Postman.j0 k l1 l2 true a0_0 l0_1))) else (compassref11_Postman.j0 k l1 l2 true a0_0 l0_1))) else (some (0, t518)))) = some (r1, r2) := h
 clear h
 replace H := Option.bind_eq_some_iff.mp H
 obtain ⟨t518, A40, H⟩ := H
 replace H : (if t518 = 0 then ((compassref11_Rounds.f k a0_0 l0_1 l1).bind fun t519 => (if t519 = true then ((compassref11_Together.f k a0_0 l0_1).bind fun t520 => (if t520 = true then ((compassref11_Pots.f k a0_0 l0_1 l2).bind fun t521 => (compassref11_Postman.j0 k l1 l2 (!t521) a0_0 l0_1)) else (compassref11_Postman.j0 k l1 l2 true a0_0 l0_1))) else (compassref11_Postman.j0 k l1 l2 true a0_0 l0_1))) else (some (0, t518))) = some (r1, r2) := H
 have A4 := ak A40
 clear A40
 by_cases c5 : t518 = 0
 rotate_left
 ·
  rw [if_neg c5] at H
  have c5b0 := bn c5
  have c5b1 : (t518 != 0) = true := bne_iff_ne.mpr c5
  simp only [Option.some.injEq, Prod.mk.injEq] at H
  obtain ⟨rfl, rfl⟩ := H
  go_enter Try.func27, Try.ntmps27
  go_wp2_with (first | ((with_reducible refine gate_dst (N := 3) rfl ?_); refine bxe 3 #[.int .i64 a0_0, .slice A0_1 l0_1.length c0_1] 24 ?_; intro gb517 hg w46 hbox hb; have n0_ := ak (bl hb); have n1_ := ak (hbox); have n2_ := ak ((by rw [hg]; exact (below_size lb) : w.heap.size ≤ gb517)); have n3_ := ak ((by rw [hg]; exact (below_size lb) : w.heap.size ≤ gb517)); clear HB; have HB := n0_; have BK517 := n1_; have GW517 := n2_; have GE517 := n3_; clear n0_ n1_ n2_ n3_; clear hb hbox hg; have hcz47_0 : w46.cell? ⟨gb517, 0, none⟩ = some (.int .i64 a0_0) := (blk_cell BK517.out 0).trans rfl; have hcz47_1 : w46.cell? ⟨gb517, 1, none⟩ = some (.slice A0_1 l0_1.length c0_1) := (blk_cell BK517.out 1).trans rfl; have hfz47_0 := blk_frozen BK517.out 0; have hfz47_1 := blk_frozen BK517.out 1) | ((with_reducible refine gate_callee (f := 35) rfl ?_); refine gl 12 Try.func35 #[.agg #[.int .i64 a0_0, .slice A0_1 l0_1.length c0_1]] ?_; (with_reducible refine (compassref11_Costs.calls k a0_0 _ _ l0_1 t518 _ (Kd.C_below HR0_1.out lb) HC0_1.out A4.out).mono ?_); rintro e w48 ⟨rfl, hb⟩; refine ⟨_, rfl, ?_⟩; have n0_ := ak (bo BK517 hb); have n1_ := ak (bl hb); clear BK517; clear HB; have BK517 := n0_; have HB := n1_; clear n0_ n1_; clear hb))
  go_ret2
  exact ⟨er, lb⟩

 rw [if_pos c5] at H
 have c5b0 := be c5
 have c5b1 : (t518 != 0) = false := bne_eq_false_iff_eq.mpr c5
 clear c5
 have HC6 := ak H
 clear H
 go_enter Try.func27, Try.ntmps27
 go_upto_region 4 with (first | ((with_reducible refine gate_dst (N := 3) rfl ?_); refine bxe 3 #[.int .i64 a0_0, .slice A0_1 l0_1.length c0_1] 24 ?_; intro gb517 hg w7 hbox hb; have n0_ := ak (bl hb); have n1_ := ak (hbox); have n2_ := ak ((by rw [hg]; exact (below_size lb) : w.heap.size ≤ gb517)); have n3_ := ak ((by rw [hg]; exact (below_size lb) : w.heap.size ≤ gb517)); clear HB; have HB := n0_; have BK517 := n1_; have GW517 := n2_; have GE517 := n3_; clear n0_ n1_ n2_ n3_; clear hb hbox hg; have hcz8_0 : w7.cell? ⟨gb517, 0, none⟩ = some (.int .i64 a0_0) := (blk_cell BK517.out 0).trans rfl; have hcz8_1 : w7.cell? ⟨gb517, 1, none⟩ = some (.slice A0_1 l0_1.length c0_1) := (blk_cell BK517.out 1).trans rfl; have hfz8_0 := blk_frozen BK517.out 0; have hfz8_1 := blk_frozen BK517.out 1) | ((with_reducible refine gate_callee (f := 35) rfl ?_); refine gl 12 Try.func35 #[.agg #[.int .i64 a0_0, .slice A0_1 l0_1.length c0_1]] ?_; (with_reducible refine (compassref11_Costs.calls k a0_0 _ _ l0_1 t518 _ (Kd.C_below HR0_1.out lb) HC0_1.out A4.out).mono ?_); rintro e w9 ⟨rfl, hb⟩; refine ⟨_, rfl, ?_⟩; have n0_ := ak (bo BK517 hb); have n1_ := ak (bl hb); clear BK517; clear HB; have BK517 := n0_; have HB := n1_; clear n0_ n1_; clear hb))
 (try simp only [Act.put, List.setIfInBounds_toArray, List.set_cons_zero, List.set_cons_succ])
 go_cut [30] (fun v30 wc => ∃ (kq : Nat) (x30_5 : Bool), v30 = .bool x30_5 ∧ Aside0 (compassref11_Postman.j0 kq l1 l2 x30_5 a0_0 l0_1 = some (r1, r2)) ∧ Aside0 (kq ≤ k) ∧ Aside0 (wc.heap[gb517]? = some (.cells #[.int .i64 a0_0, (.slice A0_1 l0_1.length c0_1)] 24 (0, 0))) ∧ Aside0 (Below w.heap.size w wc))
 case first =>
  have H := HC6.out
  clear HC6
  replace H := Option.bind_eq_some_iff.mp H
  obtain ⟨t519, A100, H⟩ := H
  replace H : (if t519 = true then ((compassref11_Together.f k a0_0 l0_1).bind fun t520 => (if t520 = true then ((compassref11_Pots.f k a0_0 l0_1 l2).bind fun t521 => (compassref11_Postman.j0 k l1 l2 (!t521) a0_0 l0_1)) else (compassref11_Postman.j0 k l1 l2 true a0_0 l0_1))) else (compassref11_Postman.j0 k l1 l2 true a0_0 l0_1)) = some (r1, r2) := H
  have A10 := ak A100
  clear A100
  by_cases c11 : t519 = true
  rotate_left
  ·
   replace c11 := Bool.eq_false_iff.mpr c11
   subst c11
   have H1 : (compassref11_Postman.j0 k l1 l2 true a0_0 l0_1) = some (r1, r2) := by rw [if_neg (show ¬ (false = true) by decide)] at H; exact H
   clear H
   have H := H1
   clear H1
   have H' := ak H
   clear H
   have hcz25_0 : w9.cell? ⟨gb517, 0, none⟩ = some (.int .i64 a0_0) := (blk_cell BK517.out 0).trans rfl
   have hcz25_1 : w9.cell? ⟨gb517, 1, none⟩ = some (.slice A0_1 l0_1.length c0_1) := (blk_cell BK517.out 1).trans rfl
   have hfz25_0 := blk_frozen BK517.out 0
   have hfz25_1 := blk_frozen BK517.out 1
   go_wp2_with (first | ((with_reducible refine gate_callee (f := 32) rfl ?_); refine gl 18 Try.func32 #[.agg #[.int .i64 a0_0, .slice A0_1 l0_1.length c0_1], .slice A1 l1.length c1] ?_; (with_reducible refine (compassref11_Rounds.calls k a0_0 _ _ l0_1 _ _ l1 false _ (Kd.C_below HR0_1.out lb) HC0_1.out (Kd.C_below HR1.out lb) HC1.out A10.out).mono ?_); rintro e w26 ⟨rfl, hb⟩; refine ⟨_, rfl, ?_⟩; have n0_ := ak (bo BK517 hb); have n1_ := ak (bl hb); clear BK517; clear HB; have BK517 := n0_; have HB := n1_; clear n0_ n1_; clear hb))
   go_meet
   case rel => exact ⟨_, (true), sr, H', ⟨by first | omega | exact Nat.le_refl _⟩, xb BK517, ⟨lb⟩⟩
  subst c11
  have H1 : ((compassref11_Together.f k a0_0 l0_1).bind fun t520 => (if t520 = true then ((compassref11_Pots.f k a0_0 l0_1 l2).bind fun t521 => (compassref11_Postman.j0 k l1 l2 (!t521) a0_0 l0_1)) else (compassref11_Postman.j0 k l1 l2 true a0_0 l0_1))) = some (r1, r2) := by rw [if_pos rfl] at H; exact H
  clear H
  have H := H1
  clear H1
  replace H := Option.bind_eq_some_iff.mp H
  obtain ⟨t520, A120, H⟩ := H
  replace H : (if t520 = true then ((compassref11_Pots.f k a0_0 l0_1 l2).bind fun t521 => (compassref11_Postman.j0 k l1 l2 (!t521) a0_0 l0_1)) else (compassref11_Postman.j0 k l1 l2 true a0_0 l0_1)) = some (r1, r2) := H
  have A12 := ak A120
  clear A120
  by_cases c13 : t520 = true
  rotate_left
  ·
   replace c13 := Bool.eq_false_iff.mpr c13
   subst c13
   have H1 : (compassref11_Postman.j0 k l1 l2 true a0_0 l0_1) = some (r1, r2) := by rw [if_neg (show ¬ (false = true) by decide)] at H; exact H
   clear H
   have H := H1
   clear H1
   have H' := ak H
   clear H
   have hcz21_0 : w9.cell? ⟨gb517, 0, none⟩ = some (.int .i64 a0_0) := (blk_cell BK517.out 0).trans rfl
   have hcz21_1 : w9.cell? ⟨gb517, 1, none⟩ = some (.slice A0_1 l0_1.length c0_1) := (blk_cell BK517.out 1).trans rfl
   have hfz21_0 := blk_frozen BK517.out 0
   have hfz21_1 := blk_frozen BK517.out 1
   go_wp2_with (first | ((with_reducible refine gate_callee (f := 32) rfl ?_); refine gl 18 Try.func32 #[.agg #[.int .i64 a0_0, .slice A0_1 l0_1.length c0_1], .slice A1 l1.length c1] ?_; (with_reducible refine (compassref11_Rounds.calls k a0_0 _ _ l0_1 _ _ l1 true _ (Kd.C_below HR0_1.out lb) HC0_1.out (Kd.C_below HR1.out lb) HC1.out A10.out).mono ?_); rintro e w22 ⟨rfl, hb⟩; refine ⟨_, rfl, ?_⟩; have n0_ := ak (bo BK517 hb); have n1_ := ak (bl hb); clear BK517; clear HB; have BK517 := n0_; have HB := n1_; clear n0_ n1_; clear hb; have hcz23_0 : w22.cell? ⟨gb517, 0, none⟩ = some (.int .i64 a0_0) := (blk_cell BK517.out 0).trans rfl; have hcz23_1 : w22.cell? ⟨gb517, 1, none⟩ = some (.slice A0_1 l0_1.length c0_1) := (blk_cell BK517.out 1).trans rfl; have hfz23_0 := blk_frozen BK517.out 0; have hfz23_1 := blk_frozen BK517.out 1) | (go_at_call 68; (with_reducible refine (compassref11_Together.calls k a0_0 _ _ l0_1 false _ (Kd.C_below HR0_1.out lb) HC0_1.out A12.out).mono ?_); rintro e w24 ⟨rfl, hb⟩; have n0_ := ak (bo BK517 hb); have n1_ := ak (bl hb); clear BK517; clear HB; have BK517 := n0_; have HB := n1_; clear n0_ n1_; clear hb))
   go_meet
   case rel => exact ⟨_, (true), sr, H', ⟨by first | omega | exact Nat.le_refl _⟩, xb BK517, ⟨lb⟩⟩
  subst c13
  have H1 : ((compassref11_Pots.f k a0_0 l0_1 l2).bind fun t521 => (compassref11_Postman.j0 k l1 l2 (!t521) a0_0 l0_1)) = some (r1, r2) := by rw [if_pos rfl] at H; exact H
  clear H
  have H := H1
  clear H1
  replace H := Option.bind_eq_some_iff.mp H
  obtain ⟨t521, A140, H⟩ := H
  replace H : (compassref11_Postman.j0 k l1 l2 (!t521) a0_0 l0_1) = some (r1, r2) := H
  have A14 := ak A140
  clear A140
  have H' := ak H
  clear H
  have hcz15_0 : w9.cell? ⟨gb517, 0, none⟩ = some (.int .i64 a0_0) := (blk_cell BK517.out 0).trans rfl
  have hcz15_1 : w9.cell? ⟨gb517, 1, none⟩ = some (.slice A0_1 l0_1.length c0_1) := (blk_cell BK517.out 1).trans rfl
  have hfz15_0 := blk_frozen BK517.out 0
  have hfz15_1 := blk_frozen BK517.out 1
  go_wp2_with (first | ((with_reducible refine gate_callee (f := 32) rfl ?_); refine gl 18 Try.func32 #[.agg #[.int .i64 a0_0, .slice A0_1 l0_1.length c0_1], .slice A1 l1.length c1] ?_; (with_reducible refine (compassref11_Rounds.calls k a0_0 _ _ l0_1 _ _ l1 true _ (Kd.C_below HR0_1.out lb) HC0_1.out (Kd.C_below HR1.out lb) HC1.out A10.out).mono ?_); rintro e w16 ⟨rfl, hb⟩; refine ⟨_, rfl, ?_⟩; have n0_ := ak (bo BK517 hb); have n1_ := ak (bl hb); clear BK517; clear HB; have BK517 := n0_; have HB := n1_; clear n0_ n1_; clear hb; have hcz17_0 : w16.cell? ⟨gb517, 0, none⟩ = some (.int .i64 a0_0) := (blk_cell BK517.out 0).trans rfl; have hcz17_1 : w16.cell? ⟨gb517, 1, none⟩ = some (.slice A0_1 l0_1.length c0_1) := (blk_cell BK517.out 1).trans rfl; have hfz17_0 := blk_frozen BK517.out 0; have hfz17_1 := blk_frozen BK517.out 1) | (go_at_call 68; (with_reducible refine (compassref11_Together.calls k a0_0 _ _ l0_1 true _ (Kd.C_below HR0_1.out lb) HC0_1.out A12.out).mono ?_); rintro e w18 ⟨rfl, hb⟩; have n0_ := ak (bo BK517 hb); have n1_ := ak (bl hb); clear BK517; clear HB; have BK517 := n0_; have HB := n1_; clear n0_ n1_; clear hb; have hcz19_0 : w18.cell? ⟨gb517, 0, none⟩ = some (.int .i64 a0_0) := (blk_cell BK517.out 0).trans rfl; have hcz19_1 : w18.cell? ⟨gb517, 1, none⟩ = some (.slice A0_1 l0_1.length c0_1) := (blk_cell BK517.out 1).trans rfl; have hfz19_0 := blk_frozen BK517.out 0; have hfz19_1 := blk_frozen BK517.out 1) | (go_at_call 63; (with_reducible refine (compassref11_Pots.calls k a0_0 _ _ l0_1 _ _ l2 t521 _ (Kd.C_below HR0_1.out lb) HC0_1.out (Kd.C_below HR2.out lb) HC2.out A14.out).mono ?_); rintro e w20 ⟨rfl, hb⟩; have n0_ := ak (bo BK517 hb); have n1_ := ak (bl hb); clear BK517; clear HB; have BK517 := n0_; have HB := n1_; clear n0_ n1_; clear hb))
  go_meet
  case rel => exact ⟨_, (!t521), sr, H', ⟨by first | omega | exact Nat.le_refl _⟩, xb BK517, ⟨lb⟩⟩
 case rest =>
  clear HC6
  try clear c1; try clear c2; try clear p2; try clear c3; try clear c5; try clear c5b0; try clear c5b1; try clear c11; try clear c13; try clear hcz15_0; try clear hcz15_1; try clear hcz17_0; try clear hcz17_1; try clear hcz19_0; try clear hcz19_1; try clear hcz21_0; try clear hcz21_1; try clear hcz23_0; try clear hcz23_1; try clear hcz25_0; try clear hcz25_1; try clear hcz8_0; try clear hcz8_1; try clear hfz15_0; try clear hfz15_1; try clear hfz17_0; try clear hfz17_1; try clear hfz19_0; try clear hfz19_1; try clear hfz21_0; try clear hfz21_1; try clear hfz23_0; try clear hfz23_1; try clear hfz25_0; try clear hfz25_1; try clear hfz8_0; try clear hfz8_1
  obtain ⟨kq, x30_5, rfl, HA, HJ5, BK517, HB⟩ := hcut
  cases kq with
  | zero => exact absurd HA.out (by simp [compassref11_Postman.j0])
  | succ kj5 =>
   have H := HA.out
   clear HA
   simp only [compassref11_Postman.j0] at H
   by_cases c27 : x30_5 = true
   ·
    subst c27
    have H1 : (some (0, 221)) = some (r1, r2) := by rw [if_pos rfl] at H; exact H
    clear H
    have H := H1
    clear H1
    simp only [Option.some.injEq, Prod.mk.injEq] at H
    obtain ⟨rfl, rfl⟩ := H
    go_wp2
    go_ret2
    exact ⟨er, lb⟩
   replace c27 := Bool.eq_false_iff.mpr c27
   subst c27
   have H1 : (compassref11_Postman.l0 kj5 l1 l2 0 a0_0 l0_1) = some (r1, r2) := by rw [if_neg (show ¬ (false = true) by decide)] at H; exact H
   clear H
   have H := H1
   clear H1
   have H' := ak H
   clear H
   go_wp2
   go_loopg [9] kj5 (fun kq v9 w' => ∃ (x9_2 : Int), v9 = .int .i64 x9_2 ∧ Aside0 (compassref11_Postman.l0 kq l1 l2 x9_2 a0_0 l0_1 = some (r1, r2)) ∧ Aside0 (kq ≤ kj5) ∧ Aside0 (w'.heap[gb517]? = some (.cells #[.int .i64 a0_0, (.slice A0_1 l0_1.length c0_1)] 24 (0, 0))) ∧ Aside0 (Below w.heap.size w w'))
   case atStart => exact ⟨(0), sr, H', ⟨Nat.le_refl _⟩, xb BK517, ⟨lb⟩⟩
   clear H'
   try clear c1; try clear c2; try clear p2; try clear c3; try clear c5; try clear c5b0; try clear c5b1; try clear c11; try clear c13; try clear c27; try clear hcz15_0; try clear hcz15_1; try clear hcz17_0; try clear hcz17_1; try clear hcz19_0; try clear hcz19_1; try clear hcz21_0; try clear hcz21_1; try clear hcz23_0; try clear hcz23_1; try clear hcz25_0; try clear hcz25_1; try clear hcz8_0; try clear hcz8_1; try clear hfz15_0; try clear hfz15_1; try clear hfz17_0; try clear hfz17_1; try clear hfz19_0; try clear hfz19_1; try clear hfz21_0; try clear hfz21_1; try clear hfz23_0; try clear hfz23_1; try clear hfz25_0; try clear hfz25_1; try clear hfz8_0; try clear hfz8_1; try clear p2
   obtain ⟨x9_2, rfl, HA, HK2, BK517, HB⟩ := hrel
   cases gk with
   | zero => exact absurd HA.out (by simp [compassref11_Postman.l0])
   | succ k2 => ?_
   have H := HA.out
   clear HA
   simp only [compassref11_Postman.l0] at H
   by_cases c28 : x9_2 < (l1.length : Int)
   rotate_left
   ·
    rw [if_neg c28] at H
    have c28b0 := decide_eq_false c28
    clear c28
    replace H := Option.bind_eq_some_iff.mp H
    obtain ⟨t525, A430, H⟩ := H
    replace H : (some (t525, 0)) = some (r1, r2) := H
    have A43 := ak A430
    clear A430
    simp only [Option.some.injEq, Prod.mk.injEq] at H
    obtain ⟨rfl, rfl⟩ := H
    have hcz44_0 : wr.cell? ⟨gb517, 0, none⟩ = some (.int .i64 a0_0) := (blk_cell BK517.out 0).trans rfl
    have hcz44_1 : wr.cell? ⟨gb517, 1, none⟩ = some (.slice A0_1 l0_1.length c0_1) := (blk_cell BK517.out 1).trans rfl
    have hfz44_0 := blk_frozen BK517.out 0
    have hfz44_1 := blk_frozen BK517.out 1
    go_wp2_with (first | ((with_reducible refine gate_callee (f := 31) rfl ?_); refine gl 59 Try.func31 #[.agg #[.int .i64 a0_0, .slice A0_1 l0_1.length c0_1], .slice A1 l1.length c1] ?_; (with_reducible refine (compassref11_Total.calls k2 a0_0 _ _ l0_1 _ _ l1 t525 _ (Kd.C_below HR0_1.out lb) HC0_1.out (Kd.C_below HR1.out lb) HC1.out A43.out).mono ?_); rintro e w45 ⟨rfl, hb⟩; refine ⟨_, rfl, ?_⟩; have n0_ := ak (bo BK517 hb); have n1_ := ak (bl hb); clear BK517; clear HB; have BK517 := n0_; have HB := n1_; clear n0_ n1_; clear hb))
    go_ret2
    exact ⟨er, lb⟩
   rw [if_pos c28] at H
   have c28b0 := decide_eq_true c28
   clear c28
   by_cases c29 : 0 ≤ x9_2
   rotate_left
   ·
    rw [if_neg c29] at H
    exact absurd H (by simp)
   rw [if_pos c29] at H
   have c29b0 := decide_eq_true c29
   clear c29
   by_cases c30 : x9_2 < (l0_1.length : Int)
   rotate_left
   ·
    rw [if_neg c30] at H
    exact absurd H (by simp)
   rw [if_pos c30] at H
   have c30b0 := decide_eq_true c30
   clear c30
   replace H := Option.bind_eq_some_iff.mp H
   obtain ⟨t523, A310, H⟩ := H
   replace H : (if t523 < 0 then (some (0, 221)) else (if t523 > 0 then (if (rd l1 x9_2) > 1 then (some (0, 221)) else (compassref11_Postman.l0 k2 l1 l2 (wrap64 (x9_2 + 1)) a0_0 l0_1)) else (compassref11_Postman.l0 k2 l1 l2 (wrap64 (x9_2 + 1)) a0_0 l0_1))) = some (r1, r2) := H
   have A31 := ak A310
   clear A310
   by_cases c32 : t523 < 0
   ·
    rw [if_pos c32] at H
    have c32b0 := decide_eq_true c32
    clear c32
    simp only [Option.some.injEq, Prod.mk.injEq] at H
    obtain ⟨rfl, rfl⟩ := H
    have hcz33_0 : wr.cell? ⟨gb517, 0, none⟩ = some (.int .i64 a0_0) := (blk_cell BK517.out 0).trans rfl
    have hcz33_1 : wr.cell? ⟨gb517, 1, none⟩ = some (.slice A0_1 l0_1.length c0_1) := (blk_cell BK517.out 1).trans rfl
    have hfz33_0 := blk_frozen BK517.out 0
    have hfz33_1 := blk_frozen BK517.out 1
    have p522 : 0 ≤ (x9_2 : Int) := oda
    have q522 : x9_2 < (l0_1.length : Int) := oda
    obtain ⟨ad522, e522, hx522_0, hx522_1, hx522_2, hx522_3⟩ := at_T98 HR0_1.out x9_2 p522 q522
    cases e522
    (try replace hx522_0 := hbc HB hx522_0)
    (try replace hx522_1 := hbc HB hx522_1)
    (try replace hx522_2 := hbc HB hx522_2)
    (try replace hx522_3 := hbc HB hx522_3)
    replace p522 := eq_true p522
    replace q522 := eq_true q522
    go_wp2_with (first | ((with_reducible refine gate_callee (f := 64) rfl ?_); refine gl 43 Try.func64 #[.agg #[.int .i64 ((rd_T98 l0_1 x9_2).f0), .int .i64 ((rd_T98 l0_1 x9_2).f1), .int .i64 ((rd_T98 l0_1 x9_2).f2), .int .i64 ((rd_T98 l0_1 x9_2).f3)], .slice A2 l2.length c2] ?_; (with_reducible refine (compassref11_Reduced.calls ((rd_T98 l0_1 x9_2).f0) ((rd_T98 l0_1 x9_2).f1) ((rd_T98 l0_1 x9_2).f2) ((rd_T98 l0_1 x9_2).f3) _ _ l2 t523 _ (Kd.C_below HR2.out lb) HC2.out A31.out).mono ?_); rintro e w34 ⟨rfl, hb⟩; refine ⟨_, rfl, ?_⟩; have n0_ := ak (bo BK517 hb); have n1_ := ak (bl hb); clear BK517; clear HB; have BK517 := n0_; have HB := n1_; clear n0_ n1_; clear hb))
    go_ret2
    exact ⟨er, lb⟩
   rw [if_neg c32] at H
   have c32b0 := decide_eq_false c32
   clear c32
   by_cases c35 : t523 > 0
   rotate_left
   ·
    rw [if_neg c35] at H
    have c35b0 := decide_eq_false c35
    clear c35
    have H' := ak H
    clear H
    have hcz41_0 : wr.cell? ⟨gb517, 0, none⟩ = some (.int .i64 a0_0) := (blk_cell BK517.out 0).trans rfl
    have hcz41_1 : wr.cell? ⟨gb517, 1, none⟩ = some (.slice A0_1 l0_1.length c0_1) := (blk_cell BK517.out 1).trans rfl
    have hfz41_0 := blk_frozen BK517.out 0
    have hfz41_1 := blk_frozen BK517.out 1
    have p522 : 0 ≤ (x9_2 : Int) := oda
    have q522 : x9_2 < (l0_1.length : Int) := oda
    obtain ⟨ad522, e522, hx522_0, hx522_1, hx522_2, hx522_3⟩ := at_T98 HR0_1.out x9_2 p522 q522
    cases e522
    (try replace hx522_0 := hbc HB hx522_0)
    (try replace hx522_1 := hbc HB hx522_1)
    (try replace hx522_2 := hbc HB hx522_2)
    (try replace hx522_3 := hbc HB hx522_3)
    replace p522 := eq_true p522
    replace q522 := eq_true q522
    go_wp2_with (first | ((with_reducible refine gate_callee (f := 64) rfl ?_); refine gl 43 Try.func64 #[.agg #[.int .i64 ((rd_T98 l0_1 x9_2).f0), .int .i64 ((rd_T98 l0_1 x9_2).f1), .int .i64 ((rd_T98 l0_1 x9_2).f2), .int .i64 ((rd_T98 l0_1 x9_2).f3)], .slice A2 l2.length c2] ?_; (with_reducible refine (compassref11_Reduced.calls ((rd_T98 l0_1 x9_2).f0) ((rd_T98 l0_1 x9_2).f1) ((rd_T98 l0_1 x9_2).f2) ((rd_T98 l0_1 x9_2).f3) _ _ l2 t523 _ (Kd.C_below HR2.out lb) HC2.out A31.out).mono ?_); rintro e w42 ⟨rfl, hb⟩; refine ⟨_, rfl, ?_⟩; have n0_ := ak (bo BK517 hb); have n1_ := ak (bl hb); clear BK517; clear HB; have BK517 := n0_; have HB := n1_; clear n0_ n1_; clear hb))
    go_roundg k2
    case measure => have := HJ5.out; have := HK2.out; omega
    case rel => exact ⟨(wrap64 (x9_2 + 1)), sr, H', ⟨by have := HJ5.out; have := HK2.out; omega⟩, xb BK517, ⟨lb⟩⟩
   rw [if_pos c35] at H
   have c35b0 := decide_eq_true c35
   clear c35
   by_cases c36 : (rd l1 x9_2) > 1
   ·
    rw [if_pos c36] at H
    have c36b0 := decide_eq_true c36
    clear c36
    simp only [Option.some.injEq, Prod.mk.injEq] at H
    obtain ⟨rfl, rfl⟩ := H
    have hcz37_0 : wr.cell? ⟨gb517, 0, none⟩ = some (.int .i64 a0_0) := (blk_cell BK517.out 0).trans rfl
    have hcz37_1 : wr.cell? ⟨gb517, 1, none⟩ = some (.slice A0_1 l0_1.length c0_1) := (blk_cell BK517.out 1).trans rfl
    have hfz37_0 := blk_frozen BK517.out 0
    have hfz37_1 := blk_frozen BK517.out 1
    have p522 : 0 ≤ (x9_2 : Int) := oda
    have q522 : x9_2 < (l0_1.length : Int) := oda
    obtain ⟨ad522, e522, hx522_0, hx522_1, hx522_2, hx522_3⟩ := at_T98 HR0_1.out x9_2 p522 q522
    cases e522
    (try replace hx522_0 := hbc HB hx522_0)
    (try replace hx522_1 := hbc HB hx522_1)
    (try replace hx522_2 := hbc HB hx522_2)
    (try replace hx522_3 := hbc HB hx522_3)
    replace p522 := eq_true p522
    replace q522 := eq_true q522
    go_wp2_with (first | ((with_reducible refine gate_callee (f := 64) rfl ?_); refine gl 43 Try.func64 #[.agg #[.int .i64 ((rd_T98 l0_1 x9_2).f0), .int .i64 ((rd_T98 l0_1 x9_2).f1), .int .i64 ((rd_T98 l0_1 x9_2).f2), .int .i64 ((rd_T98 l0_1 x9_2).f3)], .slice A2 l2.length c2] ?_; (with_reducible refine (compassref11_Reduced.calls ((rd_T98 l0_1 x9_2).f0) ((rd_T98 l0_1 x9_2).f1) ((rd_T98 l0_1 x9_2).f2) ((rd_T98 l0_1 x9_2).f3) _ _ l2 t523 _ (Kd.C_below HR2.out lb) HC2.out A31.out).mono ?_); rintro e w38 ⟨rfl, hb⟩; refine ⟨_, rfl, ?_⟩; have n0_ := ak (bo BK517 hb); have n1_ := ak (bl hb); clear BK517; clear HB; have BK517 := n0_; have HB := n1_; clear n0_ n1_; clear hb; obtain ⟨p524, q524, ad524, e524, hx524_0⟩ := wq (Kd.at_int HR1.out x9_2); cases e524; replace hx524_0 := hbc HB hx524_0))
    go_ret2
    exact ⟨er, lb⟩
   rw [if_neg c36] at H
   have c36b0 := decide_eq_false c36
   clear c36
   have H' := ak H
   clear H
   have hcz39_0 : wr.cell? ⟨gb517, 0, none⟩ = some (.int .i64 a0_0) := (blk_cell BK517.out 0).trans rfl
   have hcz39_1 : wr.cell? ⟨gb517, 1, none⟩ = some (.slice A0_1 l0_1.length c0_1) := (blk_cell BK517.out 1).trans rfl
   have hfz39_0 := blk_frozen BK517.out 0
   have hfz39_1 := blk_frozen BK517.out 1
   have p522 : 0 ≤ (x9_2 : Int) := oda
   have q522 : x9_2 < (l0_1.length : Int) := oda
   obtain ⟨ad522, e522, hx522_0, hx522_1, hx522_2, hx522_3⟩ := at_T98 HR0_1.out x9_2 p522 q522
   cases e522
   (try replace hx522_0 := hbc HB hx522_0)
   (try replace hx522_1 := hbc HB hx522_1)
   (try replace hx522_2 := hbc HB hx522_2)
   (try replace hx522_3 := hbc HB hx522_3)
   replace p522 := eq_true p522
   replace q522 := eq_true q522
   go_wp2_with (first | ((with_reducible refine gate_callee (f := 64) rfl ?_); refine gl 43 Try.func64 #[.agg #[.int .i64 ((rd_T98 l0_1 x9_2).f0), .int .i64 ((rd_T98 l0_1 x9_2).f1), .int .i64 ((rd_T98 l0_1 x9_2).f2), .int .i64 ((rd_T98 l0_1 x9_2).f3)], .slice A2 l2.length c2] ?_; (with_reducible refine (compassref11_Reduced.calls ((rd_T98 l0_1 x9_2).f0) ((rd_T98 l0_1 x9_2).f1) ((rd_T98 l0_1 x9_2).f2) ((rd_T98 l0_1 x9_2).f3) _ _ l2 t523 _ (Kd.C_below HR2.out lb) HC2.out A31.out).mono ?_); rintro e w40 ⟨rfl, hb⟩; refine ⟨_, rfl, ?_⟩; have n0_ := ak (bo BK517 hb); have n1_ := ak (bl hb); clear BK517; clear HB; have BK517 := n0_; have HB := n1_; clear n0_ n1_; clear hb; obtain ⟨p524, q524, ad524, e524, hx524_0⟩ := wq (Kd.at_int HR1.out x9_2); cases e524; replace hx524_0 := hbc HB hx524_0))
   go_roundg k2
   case measure => have := HJ5.out; have := HK2.out; omega
   case rel => exact ⟨(wrap64 (x9_2 + 1)), sr, H', ⟨by have := HJ5.out; have := HK2.out; omega⟩, xb BK517, ⟨lb⟩⟩
end Go.Proofs.Ytkdoihcjhccliaa.Q
