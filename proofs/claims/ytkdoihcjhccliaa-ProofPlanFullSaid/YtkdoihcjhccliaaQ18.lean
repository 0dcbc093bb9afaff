-- PRINTED by print.py (a twelfth state) out of the translation. Not trusted: Lean checks it.
import Derived.Test.YtkdoihcjhccliaaQ0
import Derived.Test.YtkdoihcjhccliaaQ3
import Derived.Test.YtkdoihcjhccliaaQ5
import Derived.Test.YtkdoihcjhccliaaQ10
import Derived.Test.YtkdoihcjhccliaaQ17
namespace Go.Proofs.Ytkdoihcjhccliaa.Q
open Go.RowKit Go.Proofs.YtkdoihcjhccliaaW.PrintWords Go.Proofs.YtkdoihcjhccliaaW.PrintLast Go.Proofs.YtkdoihcjhccliaaW.PrintMore
attribute [local go_sem] max2_int min2_int max_two min_two max_three min_three max_four min_four   -- for this text's walks alone
set_option linter.unusedVariables false
set_option linter.unusedSimpArgs false

/-! ### proof_Mean_1: function 76 -/
mutual
def proof_Mean_1.l0 : Nat → Int → List Bool → Int → List Int → Int → Int → Int → List (S98) → List Int → List Int → Int → Int → Option (Int × Int × Int)
  | 0, _, _, _, _, _, _, _, _, _, _, _, _ => none
  | k + 1, x3, x4, x5, x30, x31, x32, x237000, x237001, x238000, x238001, x239000, x239001 => if x32 < x31 then (if 0 ≤ x32 then (if x32 < (x30.length : Int) then (if (x238000.length : Int) = 0 then (none) else (if 0 ≤ (Int.tmod (wrap64 (x32 + 1)) (x238000.length : Int)) then (if (Int.tmod (wrap64 (x32 + 1)) (x238000.length : Int)) < (x238000.length : Int) then (if (rd x30 x32) ≥ 0 then (if (rd x30 x32) < (x237001.length : Int) then (if (rd x238000 (Int.tmod (wrap64 (x32 + 1)) (x238000.length : Int))) ≥ 0 then (if (rd x238000 (Int.tmod (wrap64 (x32 + 1)) (x238000.length : Int))) < (x237001.length : Int) then (if 0 ≤ (rd x30 x32) then (if 0 ≤ (rd x238000 (Int.tmod (wrap64 (x32 + 1)) (x238000.length : Int))) then (if ((rd_T98 x237001 (rd x30 x32)).f1) = ((rd_T98 x237001 (rd x238000 (Int.tmod (wrap64 (x32 + 1)) (x238000.length : Int)))).f0) then (if 0 ≤ ((rd_T98 x237001 (rd x30 x32)).f1) then (if ((rd_T98 x237001 (rd x30 x32)).f1) < (x4.length : Int) then (if (rdOf false x4 ((rd_T98 x237001 (rd x30 x32)).f1) = true) then (some (221, x239000, x239001)) else (proof_Mean_1.l0 k x3 (x4.set (((rd_T98 x237001 (rd x30 x32)).f1) : Int).toNat true) (wrap64 (x5 + ((rd_T98 x237001 (rd x30 x32)).f3))) x30 x31 (wrap64 (x32 + 1)) x237000 x237001 x238000 x238001 x239000 x239001)) else (none)) else (none)) else (some (221, x239000, x239001))) else (none)) else (none)) else (some (221, x239000, x239001))) else (some (221, x239000, x239001))) else (some (221, x239000, x239001))) else (some (221, x239000, x239001))) else (none)) else (none))) else (none)) else (none)) else ((proof_reduced.f k x237000 x237001 x238001 x3).bind fun bt250 => (if bt250.1 = 0 then (proof_Mean_1.l1 k x3 x5 bt250.2 (bt250.2.length : Int) 0 x239000 x239001) else (some (bt250.1, x239000, x239001))))
def proof_Mean_1.l1 : Nat → Int → Int → List Int → Int → Int → Int → Int → Option (Int × Int × Int)
  | 0, _, _, _, _, _, _, _ => none
  | k + 1, x3, x5, x106, x107, x108, x239000, x239001 => if x108 < x107 then (if 0 ≤ x108 then (if x108 < (x106.length : Int) then (if (rd x106 x108) ≥ x5 then (proof_Mean_1.l1 k x3 x5 x106 x107 (wrap64 (x108 + 1)) x239000 x239001) else (some (221, x239000, x239001))) else (none)) else (none)) else ((safeint_NewRatio.f k x5 x3).bind fun bt255 => (some (0, bt255.1, bt255.2.1)))
end
def proof_Mean_1.f (k : Nat) (a0_0 : Int) (l0_1 : List (S98)) (l1_0 : List Int) (l1_1 : List Int) (a2_0 : Int) (a2_1 : Int) : Option (Int × Int × Int) := (proof_right.f k a0_0 l0_1).bind fun t239 => (if t239 = 0 then (if (l1_0.length : Int) > 0 then (if (l1_0.length : Int) ≤ a0_0 then (if 0 ≤ a0_0 then (if (a0_0 : Int).toNat ≤ 281474976710656 then (proof_Mean_1.l0 k (l1_0.length : Int) (List.replicate (a0_0 : Int).toNat false) 0 l1_0 (l1_0.length : Int) 0 a0_0 l0_1 l1_0 l1_1 a2_0 a2_1) else (none)) else (none)) else (some (221, a2_0, a2_1))) else (some (221, a2_0, a2_1))) else (some (t239, a2_0, a2_1)))
def proof_Mean_1.T8 : Bool × List (List Nat × List Nat) := (true, [([], []), ([0], [0]), ([], []), ([2], [2]), ([], []), ([4], [4]), ([5], [5]), ([3, 6], [3, 6]), ([1, 7], [1, 7]), ([8], [8]), ([9, 0, 1, 2, 3, 4, 5, 6, 7, 8, 9], [9])])
def proof_Mean_1.B8 : List Nat := [0, 1, 0, 4, 0, 16, 48, 124, 255, 511, 1023]
theorem proof_Mean_1.tab8 : rtab .any (opsOf Try.f76 8) = proof_Mean_1.T8 := by kernel_rfl
theorem proof_Mean_1.bits8 : waitsOk proof_Mean_1.T8.2 proof_Mean_1.B8 = true := by kernel_rfl
set_option maxHeartbeats 8000000 in
set_option maxRecDepth 100000 in
theorem proof_Mean_1.calls (k : Nat) (a0_0 : Int) (A0_1 : Option Addr) (c0_1 : Nat) (l0_1 : List (S98)) (A1_0 : Option Addr) (c1_0 : Nat) (l1_0 : List Int) (A1_1 : Option Addr) (c1_1 : Nat) (l1_1 : List Int) (a2_0 : Int) (a2_1 : Int) (r1 : Int) (r2 : Int) (r3 : Int) (w wc0 : World) (gb236 gb237 gb238 gbx gr : Nat) (hr0_1 : Kd.C k98 w A0_1 l0_1.length l0_1) (hc0_1 : l0_1.length ≤ c0_1) (hr1_0 : Kd.C (Kd.int .i64) w A1_0 l1_0.length l1_0) (hc1_0 : l1_0.length ≤ c1_0) (hr1_1 : Kd.C (Kd.int .i64) w A1_1 l1_1.length l1_1) (hc1_1 : l1_1.length ≤ c1_1) (hB : Below w.heap.size w wc0) (hb0_ : wc0.heap[gb236]? = some (.cells #[.int .i64 a0_0, .slice A0_1 l0_1.length c0_1] 24 (0, 0))) (hg0_ : w.heap.size ≤ gb236) (hb1_ : wc0.heap[gb237]? = some (.cells #[.slice A1_0 l1_0.length c1_0, .slice A1_1 l1_1.length c1_1] 72 (0, 0))) (hg1_ : w.heap.size ≤ gb237) (hb2_ : wc0.heap[gb238]? = some (.cells #[.int .i64 a2_0, .int .i64 a2_1] 74 (0, 0))) (hg2_ : w.heap.size ≤ gb238) (hb3_ : wc0.heap[gbx]? = some (.cells #[.int .i64 0] 30 (0, 0))) (hg3_ : w.heap.size ≤ gbx) (hb4_ : wc0.heap[gr]? = some (.cells #[.int .i64 0, .int .i64 0] 74 (0, 0))) (hg4_ : w.heap.size ≤ gr) (hn0_1_ : gb236 ≠ gb237) (hn0_2_ : gb236 ≠ gb238) (hn0_3_ : gb236 ≠ gbx) (hn0_4_ : gb236 ≠ gr) (hn1_2_ : gb237 ≠ gb238) (hn1_3_ : gb237 ≠ gbx) (hn1_4_ : gb237 ≠ gr) (hn2_3_ : gb238 ≠ gbx) (hn2_4_ : gb238 ≠ gr) (hn3_4_ : gbx ≠ gr) (h : proof_Mean_1.f k a0_0 l0_1 l1_0 l1_1 a2_0 a2_1 = some (r1, r2, r3)) :
    Calls Try.prog 76 #[.pointer (some ⟨gb236, 0, none⟩), .pointer (some ⟨gb237, 0, none⟩), .pointer (some ⟨gb238, 0, none⟩)] wc0 fun e w' => Gave r1 (e = .returned (.tuple #[])) (e = gave r1) ∧ w'.heap[gb238]? = some (.cells #[.int .i64 r2, .int .i64 r3] 74 (0, 0)) ∧ w'.heap[gbx]? = some (.cells #[.int .i64 0] 30 (0, 0)) ∧ w'.heap[gr]? = some (.cells #[.int .i64 0, .int .i64 0] 74 (0, 0)) ∧ Below w.heap.size w w' := by
 have hu24 := Try.underlying24
 have hu74 := Try.underlying74
 have HR0_1 := ak hr0_1
 have HC0_1 := ak hc0_1
 clear hr0_1 hc0_1
 have HR1_0 := ak hr1_0
 have HC1_0 := ak hc1_0
 clear hr1_0 hc1_0
 have HR1_1 := ak hr1_1
 have HC1_1 := ak hc1_1
 clear hr1_1 hc1_1
 have HB := ak hB
 clear hB
 have BK236 := ak hb0_
 have GW236 := ak hg0_
 have GE236 := ak hg0_
 have BK237 := ak hb1_
 have GW237 := ak hg1_
 have GE237 := ak hg1_
 have BK238 := ak hb2_
 have GW238 := ak hg2_
 have GE238 := ak hg2_
 have BK999 := ak hb3_
 have GW999 := ak hg3_
 have GE999 := ak hg3_
 have BK998 := ak hb4_
 have GW998 := ak hg4_
 have GE998 := ak hg4_
 have NB236_237 := ak hn0_1_
 have NB237_236 := ak hn0_1_.symm
 have NB236_238 := ak hn0_2_
 have NB238_236 := ak hn0_2_.symm
 have NB236_999 := ak hn0_3_
 have NB999_236 := ak hn0_3_.symm
 have NB236_998 := ak hn0_4_
 have NB998_236 := ak hn0_4_.symm
 have NB237_238 := ak hn1_2_
 have NB238_237 := ak hn1_2_.symm
 have NB237_999 := ak hn1_3_
 have NB999_237 := ak hn1_3_.symm
 have NB237_998 := ak hn1_4_
 have NB998_237 := ak hn1_4_.symm
 have NB238_999 := ak hn2_3_
 have NB999_238 := ak hn2_3_.symm
 have NB238_998 := ak hn2_4_
 have NB998_238 := ak hn2_4_.symm
 have NB999_998 := ak hn3_4_
 have NB998_999 := ak hn3_4_.symm
 clear hb0_ hg0_ hb1_ hg1_ hb2_ hg2_ hb3_ hg3_ hb4_ hg4_ hn0_1_ hn0_2_ hn0_3_ hn0_4_ hn1_2_ hn1_3_ hn1_4_ hn2_3_ hn2_4_ hn3_4_
 have H : ((proof_right.f k a0_0 l0_1).bind fun t239 => (if t239 = 0 then (if (l1_0.length : Int) > 0 then (if (l1_0.length : Int) ≤ a0_0 then (if 0 ≤ a0_0 then (if (a0_0 : Int).toNat ≤ 281474976710656 then (proof_Mean_1.l0 k (l1_0.length : Int) (List.replicate (a0_0 : Int).toNat false) 0 l1_0 (l1_0.length : Int) 0 a0_0 l0_1 l1_0 l1_1 a2_0 a2_1) else (none)) else (none)) else (some (221, a2_0, a2_1))) else (some (221, a2_0, a2_1))) else (some (t239, a2_0, a2_1)))) = some (r1, r2, r3) := h
 clear h
 replace H := Option.bind_eq_some_iff.mp H
 obtain ⟨t239, A40, H⟩ := H
 replace H : (if t239 = 0 then (if (l1_0.length : Int) > 0 then (if (l1_0.length : Int) ≤ a0_0 then (if 0 ≤ a0_0 then (if (a0_0 : Int).toNat ≤ 281474976710656 then (proof_Mean_1.l0 k (l1_0.length : Int) (List.replicate (a0_0 : Int).toNat false) 0 l1_0 (l1_0.length : Int) 0 a0_0 l0_1 l1_0 l1_1 a2_0 a2_1) else (none)) else (none)) else (some (221, a2_0, a2_1))) else (some (221, a2_0, a2_1))) else (some (t239, a2_0, a2_1))) = some (r1, r2, r3) := H
 by_cases c5 : t239 = 0
 rotate_left
 ·
  rw [if_neg c5] at H
  have A4 := ak A40
  clear A40
  simp only [Option.some.injEq, Prod.mk.injEq] at H
  obtain ⟨rfl, rfl, rfl⟩ := H
  have hnb144 := NB236_237.out
  have hnc144 := NB237_236.out
  have hnb145 := NB236_238.out
  have hnc145 := NB238_236.out
  have hnb146 := NB236_999.out
  have hnc146 := NB999_236.out
  have hnb147 := NB236_998.out
  have hnc147 := NB998_236.out
  have hcz148_0 : wc0.cell? ⟨gb236, 0, none⟩ = some (.int .i64 a0_0) := (blk_cell BK236.out 0).trans rfl
  have hcz148_1 : wc0.cell? ⟨gb236, 1, none⟩ = some (.slice A0_1 l0_1.length c0_1) := (blk_cell BK236.out 1).trans rfl
  have hfz148_0 := blk_frozen BK236.out 0
  have hfz148_1 := blk_frozen BK236.out 1
  go_enter Try.func76, Try.ntmps76
  go_wp2_with (first | ((with_reducible refine gate_callee (f := 50) rfl ?_); refine pl 13 Try.func50 #[.agg #[.int .i64 a0_0, .slice A0_1 l0_1.length c0_1]] ?_; (with_reducible refine (proof_right.bad k a0_0 _ _ l0_1 t239 _ (Kd.C_below HR0_1.out lb) HC0_1.out A4.out c5).mono ?_); rintro e w149 ⟨rfl, hb⟩; refine ⟨_, rfl, ?_⟩; (repeat (first | refine panic_then ?_ | refine panic_block ?_)); exact panic_body rfl (⟨Gave.no c5 rfl, blk_below (bx BK238.out) hb, blk_below (bx BK999.out) hb, blk_below (bx BK998.out) hb, below_step lb hb⟩)))

 subst c5
 have H1 : (if (l1_0.length : Int) > 0 then (if (l1_0.length : Int) ≤ a0_0 then (if 0 ≤ a0_0 then (if (a0_0 : Int).toNat ≤ 281474976710656 then (proof_Mean_1.l0 k (l1_0.length : Int) (List.replicate (a0_0 : Int).toNat false) 0 l1_0 (l1_0.length : Int) 0 a0_0 l0_1 l1_0 l1_1 a2_0 a2_1) else (none)) else (none)) else (some (221, a2_0, a2_1))) else (some (221, a2_0, a2_1))) = some (r1, r2, r3) := by rw [if_pos rfl] at H; exact H
 clear H
 have H := H1
 clear H1
 have A4 := ak A40
 clear A40
 by_cases c6 : (l1_0.length : Int) > 0
 rotate_left
 ·
  rw [if_neg c6] at H
  have c6b0 := decide_eq_false c6
  have c6b1 : decide (0 < l1_0.length) = false := decide_eq_false (by omega)
  clear c6
  simp only [Option.some.injEq, Prod.mk.injEq] at H
  obtain ⟨rfl, rfl, rfl⟩ := H
  have hnb134 := NB236_237.out
  have hnc134 := NB237_236.out
  have hnb135 := NB236_238.out
  have hnc135 := NB238_236.out
  have hnb136 := NB236_999.out
  have hnc136 := NB999_236.out
  have hnb137 := NB236_998.out
  have hnc137 := NB998_236.out
  have hcz138_0 : wc0.cell? ⟨gb236, 0, none⟩ = some (.int .i64 a0_0) := (blk_cell BK236.out 0).trans rfl
  have hcz138_1 : wc0.cell? ⟨gb236, 1, none⟩ = some (.slice A0_1 l0_1.length c0_1) := (blk_cell BK236.out 1).trans rfl
  have hfz138_0 := blk_frozen BK236.out 0
  have hfz138_1 := blk_frozen BK236.out 1
  go_enter Try.func76, Try.ntmps76
  go_wp2_with (first | ((with_reducible refine gate_callee (f := 50) rfl ?_); refine gl 13 Try.func50 #[.agg #[.int .i64 a0_0, .slice A0_1 l0_1.length c0_1]] ?_; (with_reducible refine (proof_right.ok k a0_0 _ _ l0_1  _ (Kd.C_below HR0_1.out lb) HC0_1.out A4.out).mono ?_); rintro e w139 ⟨rfl, hb⟩; refine ⟨_, rfl, ?_⟩; have n0_ := ak (bo BK236 hb); have n1_ := ak (bo BK237 hb); have n2_ := ak (bo BK238 hb); have n3_ := ak (blk_below (g := gbx) (o := .cells #[.int .i64 0] 30 (0, 0)) (bx BK999.out) hb); have n4_ := ak (blk_below (g := gr) (o := .cells #[.int .i64 0, .int .i64 0] 74 (0, 0)) (bx BK998.out) hb); have n5_ := ak (bl hb); clear BK236; clear BK237; clear BK238; clear BK999; clear BK998; clear HB; have BK236 := n0_; have BK237 := n1_; have BK238 := n2_; have BK999 := n3_; have BK998 := n4_; have HB := n5_; clear n0_ n1_ n2_ n3_ n4_ n5_; clear hb; have ⟨_, _⟩ := nn NB237_238; have ⟨_, _⟩ := nn NB237_999; have ⟨_, _⟩ := nn NB237_998; have hcz143_0 : w139.cell? ⟨gb237, 0, none⟩ = some (.slice A1_0 l1_0.length c1_0) := (blk_cell BK237.out 0).trans rfl; have hcz143_1 : w139.cell? ⟨gb237, 1, none⟩ = some (.slice A1_1 l1_1.length c1_1) := (blk_cell BK237.out 1).trans rfl; have hfz143_0 := blk_frozen BK237.out 0; have hfz143_1 := blk_frozen BK237.out 1) | ((with_reducible refine gate_callee (f := 51) rfl ?_); refine pl 25 Try.func51 #[.bool false, .int .i64 221] ?_; refine (proof_need.bad 221 _).mono ?_; rintro e w' ⟨rfl, rfl⟩; refine ⟨_, rfl, ?_⟩; (repeat (first | refine panic_then ?_ | refine panic_block ?_)); exact panic_body rfl (⟨Gave.no da rfl, (bx BK238.out), (bx BK999.out), (bx BK998.out), lb⟩)))
 rw [if_pos c6] at H
 have c6b0 := decide_eq_true c6
 have c6b1 : decide (0 < l1_0.length) = true := decide_eq_true (by omega)
 clear c6
 by_cases c7 : (l1_0.length : Int) ≤ a0_0
 rotate_left
 ·
  rw [if_neg c7] at H
  have c7b0 := decide_eq_false c7
  clear c7
  simp only [Option.some.injEq, Prod.mk.injEq] at H
  obtain ⟨rfl, rfl, rfl⟩ := H
  have hnb123 := NB236_237.out
  have hnc123 := NB237_236.out
  have hnb124 := NB236_238.out
  have hnc124 := NB238_236.out
  have hnb125 := NB236_999.out
  have hnc125 := NB999_236.out
  have hnb126 := NB236_998.out
  have hnc126 := NB998_236.out
  have hcz127_0 : wc0.cell? ⟨gb236, 0, none⟩ = some (.int .i64 a0_0) := (blk_cell BK236.out 0).trans rfl
  have hcz127_1 : wc0.cell? ⟨gb236, 1, none⟩ = some (.slice A0_1 l0_1.length c0_1) := (blk_cell BK236.out 1).trans rfl
  have hfz127_0 := blk_frozen BK236.out 0
  have hfz127_1 := blk_frozen BK236.out 1
  go_enter Try.func76, Try.ntmps76
  go_wp2_with (first | ((with_reducible refine gate_callee (f := 50) rfl ?_); refine gl 13 Try.func50 #[.agg #[.int .i64 a0_0, .slice A0_1 l0_1.length c0_1]] ?_; (with_reducible refine (proof_right.ok k a0_0 _ _ l0_1  _ (Kd.C_below HR0_1.out lb) HC0_1.out A4.out).mono ?_); rintro e w128 ⟨rfl, hb⟩; refine ⟨_, rfl, ?_⟩; have n0_ := ak (bo BK236 hb); have n1_ := ak (bo BK237 hb); have n2_ := ak (bo BK238 hb); have n3_ := ak (blk_below (g := gbx) (o := .cells #[.int .i64 0] 30 (0, 0)) (bx BK999.out) hb); have n4_ := ak (blk_below (g := gr) (o := .cells #[.int .i64 0, .int .i64 0] 74 (0, 0)) (bx BK998.out) hb); have n5_ := ak (bl hb); clear BK236; clear BK237; clear BK238; clear BK999; clear BK998; clear HB; have BK236 := n0_; have BK237 := n1_; have BK238 := n2_; have BK999 := n3_; have BK998 := n4_; have HB := n5_; clear n0_ n1_ n2_ n3_ n4_ n5_; clear hb; have ⟨_, _⟩ := nn NB237_238; have ⟨_, _⟩ := nn NB237_999; have ⟨_, _⟩ := nn NB237_998; have hcz132_0 : w128.cell? ⟨gb237, 0, none⟩ = some (.slice A1_0 l1_0.length c1_0) := (blk_cell BK237.out 0).trans rfl; have hcz132_1 : w128.cell? ⟨gb237, 1, none⟩ = some (.slice A1_1 l1_1.length c1_1) := (blk_cell BK237.out 1).trans rfl; have hfz132_0 := blk_frozen BK237.out 0; have hfz132_1 := blk_frozen BK237.out 1; have hcz133_0 : w128.cell? ⟨gb236, 0, none⟩ = some (.int .i64 a0_0) := (blk_cell BK236.out 0).trans rfl; have hcz133_1 : w128.cell? ⟨gb236, 1, none⟩ = some (.slice A0_1 l0_1.length c0_1) := (blk_cell BK236.out 1).trans rfl; have hfz133_0 := blk_frozen BK236.out 0; have hfz133_1 := blk_frozen BK236.out 1) | ((with_reducible refine gate_callee (f := 51) rfl ?_); refine pl 25 Try.func51 #[.bool false, .int .i64 221] ?_; refine (proof_need.bad 221 _).mono ?_; rintro e w' ⟨rfl, rfl⟩; refine ⟨_, rfl, ?_⟩; (repeat (first | refine panic_then ?_ | refine panic_block ?_)); exact panic_body rfl (⟨Gave.no da rfl, (bx BK238.out), (bx BK999.out), (bx BK998.out), lb⟩)))
 rw [if_pos c7] at H
 have c7b0 := decide_eq_true c7
 clear c7
 have A8 := ak (show proof_need.f true 221 = some () from rfl)
 by_cases c9 : 0 ≤ a0_0
 rotate_left
 ·
  rw [if_neg c9] at H
  exact absurd H (by simp)
 rw [if_pos c9] at H
 have c9b0 := eq_true c9
 have c9b1 : decide (0 ≤ a0_0) = true := decide_eq_true c9
 clear c9
 by_cases c10 : (a0_0 : Int).toNat ≤ 281474976710656
 rotate_left
 ·
  rw [if_neg c10] at H
  exact absurd H (by simp)
 rw [if_pos c10] at H
 have c10b0 := eq_true c10
 have c10b1 : decide ((a0_0 : Int).toNat ≤ 281474976710656) = true := decide_eq_true c10
 clear c10
 obtain ⟨y240, hy240⟩ : ∃ y_ : List Bool, y_ = (List.replicate (a0_0 : Int).toNat false) := ⟨_, rfl⟩
 replace H : (proof_Mean_1.l0 k (l1_0.length : Int) y240 0 l1_0 (l1_0.length : Int) 0 a0_0 l0_1 l1_0 l1_1 a2_0 a2_1) = some (r1, r2, r3) := by first | (rw [hy240]; exact H) | exact H
 have Ny240 := ak hy240
 clear hy240
 have H' := ak H
 clear H
 have hnb11 := NB236_237.out
 have hnc11 := NB237_236.out
 have hnb12 := NB236_238.out
 have hnc12 := NB238_236.out
 have hnb13 := NB236_999.out
 have hnc13 := NB999_236.out
 have hnb14 := NB236_998.out
 have hnc14 := NB998_236.out
 have hcz15_0 : wc0.cell? ⟨gb236, 0, none⟩ = some (.int .i64 a0_0) := (blk_cell BK236.out 0).trans rfl
 have hcz15_1 : wc0.cell? ⟨gb236, 1, none⟩ = some (.slice A0_1 l0_1.length c0_1) := (blk_cell BK236.out 1).trans rfl
 have hfz15_0 := blk_frozen BK236.out 0
 have hfz15_1 := blk_frozen BK236.out 1
 go_enter Try.func76, Try.ntmps76
 go_wp2_with (first | ((with_reducible refine gate_callee (f := 50) rfl ?_); refine gl 13 Try.func50 #[.agg #[.int .i64 a0_0, .slice A0_1 l0_1.length c0_1]] ?_; (with_reducible refine (proof_right.ok k a0_0 _ _ l0_1  _ (Kd.C_below HR0_1.out lb) HC0_1.out A4.out).mono ?_); rintro e w16 ⟨rfl, hb⟩; refine ⟨_, rfl, ?_⟩; have n0_ := ak (bo BK236 hb); have n1_ := ak (bo BK237 hb); have n2_ := ak (bo BK238 hb); have n3_ := ak (blk_below (g := gbx) (o := .cells #[.int .i64 0] 30 (0, 0)) (bx BK999.out) hb); have n4_ := ak (blk_below (g := gr) (o := .cells #[.int .i64 0, .int .i64 0] 74 (0, 0)) (bx BK998.out) hb); have n5_ := ak (bl hb); clear BK236; clear BK237; clear BK238; clear BK999; clear BK998; clear HB; have BK236 := n0_; have BK237 := n1_; have BK238 := n2_; have BK999 := n3_; have BK998 := n4_; have HB := n5_; clear n0_ n1_ n2_ n3_ n4_ n5_; clear hb; have ⟨_, _⟩ := nn NB237_238; have ⟨_, _⟩ := nn NB237_999; have ⟨_, _⟩ := nn NB237_998; have hcz20_0 : w16.cell? ⟨gb237, 0, none⟩ = some (.slice A1_0 l1_0.length c1_0) := (blk_cell BK237.out 0).trans rfl; have hcz20_1 : w16.cell? ⟨gb237, 1, none⟩ = some (.slice A1_1 l1_1.length c1_1) := (blk_cell BK237.out 1).trans rfl; have hfz20_0 := blk_frozen BK237.out 0; have hfz20_1 := blk_frozen BK237.out 1; have hcz21_0 : w16.cell? ⟨gb236, 0, none⟩ = some (.int .i64 a0_0) := (blk_cell BK236.out 0).trans rfl; have hcz21_1 : w16.cell? ⟨gb236, 1, none⟩ = some (.slice A0_1 l0_1.length c0_1) := (blk_cell BK236.out 1).trans rfl; have hfz21_0 := blk_frozen BK236.out 0; have hfz21_1 := blk_frozen BK236.out 1) | ((with_reducible refine gate_callee (f := 51) rfl ?_); refine gl 25 Try.func51 #[.bool true, .int .i64 221] ?_; (with_reducible refine (proof_need.calls true 221  _ A8.out).mono ?_); rintro e w' ⟨rfl, ⟨nd, rfl⟩⟩; refine ⟨_, rfl, ?_⟩) | ((with_reducible refine gate_dst (N := 28) rfl ?_); (try (refine gate_guard (by rfl) ?_; dsimp only)); refine Kd.R_make Kd.bool _ 4 rfl (N := 28) rfl 26 _ _ rfl a0_0 rfl rfl Try.underlying26 (.bool false) 1 info4 rfl (by decide) (by omega) false (ok := fun _ => True) (okp := fun _ => True) rfl (fun _ hk => hk) trivial (oda) (Nat.le_trans (Nat.mul_le_mul_right _ (oda : a0_0.toNat ≤ 281474976710656)) (by omega)) (Below.refl _ _) (Nat.le_refl _) ?_; intro v241 w22 ho23 hb hg_ hnew_; clear hg_ hnew_; (first | rw [← Ny240.out] at ho23 | (simp only [Int.reduceToNat] at ho23; rw [← Ny240.out] at ho23)); have n0_ := ak (Kd.R_lower ho23 (below_size lb)); have n1_ := ak (bo BK236 hb); have n2_ := ak (bo BK237 hb); have n3_ := ak (bo BK238 hb); have n4_ := ak (blk_below (g := gbx) (o := .cells #[.int .i64 0] 30 (0, 0)) (bx BK999.out) hb); have n5_ := ak (blk_below (g := gr) (o := .cells #[.int .i64 0, .int .i64 0] 74 (0, 0)) (bx BK998.out) hb); have n6_ := ak (bl hb); clear BK236; clear BK237; clear BK238; clear BK999; clear BK998; clear HB; have HO242 := n0_; have BK236 := n1_; have BK237 := n2_; have BK238 := n3_; have BK999 := n4_; have BK998 := n5_; have HB := n6_; clear n0_ n1_ n2_ n3_ n4_ n5_ n6_; clear hb ho23; have hcz24_0 : w22.cell? ⟨gb237, 0, none⟩ = some (.slice A1_0 l1_0.length c1_0) := (blk_cell BK237.out 0).trans rfl; have hcz24_1 : w22.cell? ⟨gb237, 1, none⟩ = some (.slice A1_1 l1_1.length c1_1) := (blk_cell BK237.out 1).trans rfl; have hfz24_0 := blk_frozen BK237.out 0; have hfz24_1 := blk_frozen BK237.out 1))
 go_loopg [5, 32] k (fun kq v5 v32 w' => ∃ (x4_1 : List Bool) (x5_1 : Int) (x32_1 : Int), v5 = .int .i64 x5_1 ∧ v32 = .int .i64 x32_1 ∧ Aside0 (proof_Mean_1.l0 kq (l1_0.length : Int) x4_1 x5_1 l1_0 (l1_0.length : Int) x32_1 a0_0 l0_1 l1_0 l1_1 a2_0 a2_1 = some (r1, r2, r3)) ∧ Aside0 (kq ≤ k) ∧ Aside0 (Kd.R Kd.bool 4 w' w.heap.size (fun _ => True) v241 x4_1) ∧ Aside0 (w'.heap[gb236]? = some (.cells #[.int .i64 a0_0, (.slice A0_1 l0_1.length c0_1)] 24 (0, 0))) ∧ Aside0 (w'.heap[gb237]? = some (.cells #[(.slice A1_0 l1_0.length c1_0), (.slice A1_1 l1_1.length c1_1)] 72 (0, 0))) ∧ Aside0 (w'.heap[gb238]? = some (.cells #[.int .i64 a2_0, .int .i64 a2_1] 74 (0, 0))) ∧ Aside0 (w'.heap[gbx]? = some (.cells #[.int .i64 0] 30 (0, 0))) ∧ Aside0 (w'.heap[gr]? = some (.cells #[.int .i64 0, .int .i64 0] 74 (0, 0))) ∧ Aside0 (Below w.heap.size w w'))
 case atStart => exact ⟨(y240), (0), (0), sr, sr, H', ⟨Nat.le_refl _⟩, ⟨rx HO242.out⟩, xb BK236, xb BK237, xb BK238, xb BK999, xb BK998, ⟨lb⟩⟩
 clear H'
 try clear c1; try clear p2; try clear c5; try clear c6; try clear c6b0; try clear c6b1; try clear c7; try clear c7b0; try clear c9; try clear c9b0; try clear c9b1; try clear c10; try clear c10b0; try clear c10b1; try clear c11; try clear c12; try clear c13; try clear c14; try clear c17; try clear c18; try clear c19; try clear hcz15_0; try clear hcz15_1; try clear hcz20_0; try clear hcz20_1; try clear hcz21_0; try clear hcz21_1; try clear hcz24_0; try clear hcz24_1; try clear hfz15_0; try clear hfz15_1; try clear hfz20_0; try clear hfz20_1; try clear hfz21_0; try clear hfz21_1; try clear hfz24_0; try clear hfz24_1
 obtain ⟨x4_1, x5_1, x32_1, rfl, rfl, HA, HK1, HO_4, BK236, BK237, BK238, BK999, BK998, HB⟩ := hrel
 cases gk with
 | zero => exact absurd HA.out (by simp [proof_Mean_1.l0])
 | succ k1 => ?_
 have H := HA.out
 clear HA
 simp only [proof_Mean_1.l0] at H
 by_cases c25 : x32_1 < (l1_0.length : Int)
 rotate_left
 ·
  rw [if_neg c25] at H
  have c25b0 := decide_eq_false c25
  clear c25
  replace H := Option.bind_eq_some_iff.mp H
  obtain ⟨⟨t250, t251⟩, A880, H⟩ := H
  replace H : (if t250 = 0 then (proof_Mean_1.l1 k1 (l1_0.length : Int) x5_1 t251 (t251.length : Int) 0 a2_0 a2_1) else (some (t250, a2_0, a2_1))) = some (r1, r2, r3) := H
  by_cases c89 : t250 = 0
  rotate_left
  ·
   rw [if_neg c89] at H
   have A88 := ak A880
   clear A880
   simp only [Option.some.injEq, Prod.mk.injEq] at H
   obtain ⟨rfl, rfl, rfl⟩ := H
   have hnb113 := NB236_237.out
   have hnc113 := NB237_236.out
   have hnb114 := NB236_238.out
   have hnc114 := NB238_236.out
   have hnb115 := NB236_999.out
   have hnc115 := NB999_236.out
   have hnb116 := NB236_998.out
   have hnc116 := NB998_236.out
   have hcz117_0 : wr.cell? ⟨gb236, 0, none⟩ = some (.int .i64 a0_0) := (blk_cell BK236.out 0).trans rfl
   have hcz117_1 : wr.cell? ⟨gb236, 1, none⟩ = some (.slice A0_1 l0_1.length c0_1) := (blk_cell BK236.out 1).trans rfl
   have hfz117_0 := blk_frozen BK236.out 0
   have hfz117_1 := blk_frozen BK236.out 1
   have hnb118 := NB237_238.out
   have hnc118 := NB238_237.out
   have hnb119 := NB237_999.out
   have hnc119 := NB999_237.out
   have hnb120 := NB237_998.out
   have hnc120 := NB998_237.out
   have hcz121_0 : wr.cell? ⟨gb237, 0, none⟩ = some (.slice A1_0 l1_0.length c1_0) := (blk_cell BK237.out 0).trans rfl
   have hcz121_1 : wr.cell? ⟨gb237, 1, none⟩ = some (.slice A1_1 l1_1.length c1_1) := (blk_cell BK237.out 1).trans rfl
   have hfz121_0 := blk_frozen BK237.out 0
   have hfz121_1 := blk_frozen BK237.out 1
   go_wp2_with (first | ((with_reducible refine gate_callee (f := 62) rfl ?_); refine pl 106 Try.func62 #[.agg #[.int .i64 a0_0, .slice A0_1 l0_1.length c0_1], .slice A1_1 l1_1.length c1_1, .int .i64 (l1_0.length : Int)] ?_; (with_reducible refine (proof_reduced.bad k1 a0_0 _ _ l0_1 _ _ l1_1 (l1_0.length : Int) t250 t251 _ (Kd.C_below HR0_1.out lb) HC0_1.out (Kd.C_below HR1_1.out lb) HC1_1.out A88.out c89).mono ?_); rintro e w122 ⟨rfl, hb⟩; refine ⟨_, rfl, ?_⟩; (repeat (first | refine panic_then ?_ | refine panic_block ?_)); exact panic_body rfl (⟨Gave.no c89 rfl, blk_below (bx BK238.out) hb, blk_below (bx BK999.out) hb, blk_below (bx BK998.out) hb, below_step lb hb⟩)))
  subst c89
  have H1 : (proof_Mean_1.l1 k1 (l1_0.length : Int) x5_1 t251 (t251.length : Int) 0 a2_0 a2_1) = some (r1, r2, r3) := by rw [if_pos rfl] at H; exact H
  clear H
  have H := H1
  clear H1
  have A88 := ak A880
  clear A880
  have H' := ak H
  clear H
  have hnb90 := NB236_237.out
  have hnc90 := NB237_236.out
  have hnb91 := NB236_238.out
  have hnc91 := NB238_236.out
  have hnb92 := NB236_999.out
  have hnc92 := NB999_236.out
  have hnb93 := NB236_998.out
  have hnc93 := NB998_236.out
  have hcz94_0 : wr.cell? ⟨gb236, 0, none⟩ = some (.int .i64 a0_0) := (blk_cell BK236.out 0).trans rfl
  have hcz94_1 : wr.cell? ⟨gb236, 1, none⟩ = some (.slice A0_1 l0_1.length c0_1) := (blk_cell BK236.out 1).trans rfl
  have hfz94_0 := blk_frozen BK236.out 0
  have hfz94_1 := blk_frozen BK236.out 1
  have hnb95 := NB237_238.out
  have hnc95 := NB238_237.out
  have hnb96 := NB237_999.out
  have hnc96 := NB999_237.out
  have hnb97 := NB237_998.out
  have hnc97 := NB998_237.out
  have hcz98_0 : wr.cell? ⟨gb237, 0, none⟩ = some (.slice A1_0 l1_0.length c1_0) := (blk_cell BK237.out 0).trans rfl
  have hcz98_1 : wr.cell? ⟨gb237, 1, none⟩ = some (.slice A1_1 l1_1.length c1_1) := (blk_cell BK237.out 1).trans rfl
  have hfz98_0 := blk_frozen BK237.out 0
  have hfz98_1 := blk_frozen BK237.out 1
  go_wp2_with (first | ((with_reducible refine gate_callee (f := 62) rfl ?_); refine gl 106 Try.func62 #[.agg #[.int .i64 a0_0, .slice A0_1 l0_1.length c0_1], .slice A1_1 l1_1.length c1_1, .int .i64 (l1_0.length : Int)] ?_; (with_reducible refine (proof_reduced.ok k1 a0_0 _ _ l0_1 _ _ l1_1 (l1_0.length : Int) t251 _ (Kd.C_below HR0_1.out lb) HC0_1.out (Kd.C_below HR1_1.out lb) HC1_1.out A88.out).mono ?_); rintro e w99 ⟨v252, rfl, ho0, hb⟩; refine ⟨_, rfl, ?_⟩; have n0_ := ak (ro HO_4 hb); have n1_ := ak (Kd.R_lower ho0 (below_size lb)); have n2_ := ak (bo BK236 hb); have n3_ := ak (bo BK237 hb); have n4_ := ak (bo BK238 hb); have n5_ := ak (blk_below (g := gbx) (o := .cells #[.int .i64 0] 30 (0, 0)) (bx BK999.out) hb); have n6_ := ak (blk_below (g := gr) (o := .cells #[.int .i64 0, .int .i64 0] 74 (0, 0)) (bx BK998.out) hb); have n7_ := ak (bl hb); clear HO_4; clear BK236; clear BK237; clear BK238; clear BK999; clear BK998; clear HB; have HO_4 := n0_; have HO253 := n1_; have BK236 := n2_; have BK237 := n3_; have BK238 := n4_; have BK999 := n5_; have BK998 := n6_; have HB := n7_; clear n0_ n1_ n2_ n3_ n4_ n5_ n6_ n7_; clear hb; (try clear ho0); obtain ⟨Ao100, co100, eo100⟩ := Kd.R_slice HO253.out; subst eo100))
  go_loopg [108] k1 (fun kq v108 w' => ∃ (x108_2 : Int), v108 = .int .i64 x108_2 ∧ Aside0 (proof_Mean_1.l1 kq (l1_0.length : Int) x5_1 t251 (t251.length : Int) x108_2 a2_0 a2_1 = some (r1, r2, r3)) ∧ Aside0 (kq ≤ k1) ∧ Aside0 (Kd.R (Kd.int .i64) 2 w' w.heap.size (fun _ => True) (.slice Ao100 t251.length co100) t251) ∧ Aside0 (w'.heap[gb236]? = some (.cells #[.int .i64 a0_0, (.slice A0_1 l0_1.length c0_1)] 24 (0, 0))) ∧ Aside0 (w'.heap[gb237]? = some (.cells #[(.slice A1_0 l1_0.length c1_0), (.slice A1_1 l1_1.length c1_1)] 72 (0, 0))) ∧ Aside0 (w'.heap[gb238]? = some (.cells #[.int .i64 a2_0, .int .i64 a2_1] 74 (0, 0))) ∧ Aside0 (w'.heap[gbx]? = some (.cells #[.int .i64 0] 30 (0, 0))) ∧ Aside0 (w'.heap[gr]? = some (.cells #[.int .i64 0, .int .i64 0] 74 (0, 0))) ∧ Aside0 (Below w.heap.size w w'))
  case atStart => exact ⟨(0), sr, H', ⟨Nat.le_refl _⟩, ⟨rx HO253.out⟩, xb BK236, xb BK237, xb BK238, xb BK999, xb BK998, ⟨lb⟩⟩
  clear H'
  try clear c1; try clear c2; try clear p2; try clear q2; try clear hx2; try clear c3; try clear c5; try clear c6; try clear c7; try clear c8; try clear c9; try clear p24; try clear q24; try clear hx24; try clear c25; try clear c25b0; try clear c26; try clear c27; try clear c30; try clear c31; try clear c32; try clear c32b0; try clear c33; try clear c33b0; try clear c34; try clear c34b0; try clear c51; try clear c62; try clear c70; try clear c71; try clear c72; try clear c73; try clear c76; try clear c77; try clear c78; try clear c79; try clear c82; try clear c83; try clear c84; try clear c85; try clear c89; try clear c90; try clear c91; try clear c92; try clear c93; try clear c95; try clear c96; try clear c97; try clear hcz74_0; try clear hcz74_1; try clear hcz80_0; try clear hcz80_1; try clear hcz86_0; try clear hcz86_1; try clear hcz94_0; try clear hcz94_1; try clear hcz98_0; try clear hcz98_1; try clear hfz74_0; try clear hfz74_1; try clear hfz80_0; try clear hfz80_1; try clear hfz86_0; try clear hfz86_1; try clear hfz94_0; try clear hfz94_1; try clear hfz98_0; try clear hfz98_1; try clear hx243_0; try clear hx244_0; try clear p243; try clear p244; try clear q243; try clear q244
  obtain ⟨x108_2, rfl, HA, HK2, HO_106, BK236, BK237, BK238, BK999, BK998, HB⟩ := hrel
  cases gk with
  | zero => exact absurd HA.out (by simp [proof_Mean_1.l1])
  | succ k2 => ?_
  have H := HA.out
  clear HA
  simp only [proof_Mean_1.l1] at H
  by_cases c101 : x108_2 < (t251.length : Int)
  rotate_left
  ·
   rw [if_neg c101] at H
   have c101b0 := decide_eq_false c101
   clear c101
   replace H := Option.bind_eq_some_iff.mp H
   obtain ⟨⟨t255, t256, t257⟩, A1060, H⟩ := H
   replace H : (some (0, t255, t256)) = some (r1, r2, r3) := H
   have A106 := ak A1060
   clear A1060
   simp only [Option.some.injEq, Prod.mk.injEq] at H
   obtain ⟨rfl, rfl, rfl⟩ := H
   go_wp2_with (first | ((with_reducible refine gate_callee (f := 77) rfl ?_); refine gl 120 Try.func77 #[.int .i64 x5_1, .int .i64 (l1_0.length : Int)] ?_; (with_reducible refine (safeint_NewRatio.calls k2 x5_1 (l1_0.length : Int) t255 t256 t257 _ A106.out).mono ?_); rintro e w107 ⟨rfl, hb⟩; refine ⟨_, rfl, ?_⟩; have n0_ := ak (ro HO_106 hb); have n1_ := ak (bo BK236 hb); have n2_ := ak (bo BK237 hb); have n3_ := ak (bo BK238 hb); have n4_ := ak (blk_below (g := gbx) (o := .cells #[.int .i64 0] 30 (0, 0)) (bx BK999.out) hb); have n5_ := ak (blk_below (g := gr) (o := .cells #[.int .i64 0, .int .i64 0] 74 (0, 0)) (bx BK998.out) hb); have n6_ := ak (bl hb); clear HO_106; clear BK236; clear BK237; clear BK238; clear BK999; clear BK998; clear HB; have HO_106 := n0_; have BK236 := n1_; have BK237 := n2_; have BK238 := n3_; have BK999 := n4_; have BK998 := n5_; have HB := n6_; clear n0_ n1_ n2_ n3_ n4_ n5_ n6_; clear hb; have ⟨_, _⟩ := nn NB238_236; have ⟨_, _⟩ := nn NB238_237; have ⟨_, _⟩ := nn NB238_999; have ⟨_, _⟩ := nn NB238_998; have hcz112_0 : w107.cell? ⟨gb238, 0, none⟩ = some (.int .i64 a2_0) := (blk_cell BK238.out 0).trans rfl; have hcz112_1 : w107.cell? ⟨gb238, 1, none⟩ = some (.int .i64 a2_1) := (blk_cell BK238.out 1).trans rfl; have hfz112_0 := blk_frozen BK238.out 0; have hfz112_1 := blk_frozen BK238.out 1))
   first | go_end0 | ((try simp only [Exit.inBlock, Exit.then]); refine bodyPost_ret (results_none rfl _ _ _) rfl ?_)
   exact ⟨Gave.ok (by first | rfl | (simp <;> rfl)), (by (with_reducible repeat (first | refine blk_drewN ?_ _ | refine blk_drew ?_ | refine blk_alloc ?_ _)); refine blk_put (cs := #[.int .i64 t255, .int .i64 a2_1]) ?_ 1 _ rfl; (with_reducible repeat (first | refine blk_drewN ?_ _ | refine blk_drew ?_ | refine blk_alloc ?_ _)); refine blk_put (cs := #[.int .i64 a2_0, .int .i64 a2_1]) ?_ 0 _ rfl; exact bx BK238.out), (by (with_reducible repeat (first | refine blk_drewN ?_ _ | refine blk_drew ?_ | refine blk_alloc ?_ _)); refine blk_far ?_ NB999_238.out _; (with_reducible repeat (first | refine blk_drewN ?_ _ | refine blk_drew ?_ | refine blk_alloc ?_ _)); refine blk_far ?_ NB999_238.out _; exact bx BK999.out), (by (with_reducible repeat (first | refine blk_drewN ?_ _ | refine blk_drew ?_ | refine blk_alloc ?_ _)); refine blk_far ?_ NB998_238.out _; (with_reducible repeat (first | refine blk_drewN ?_ _ | refine blk_drew ?_ | refine blk_alloc ?_ _)); refine blk_far ?_ NB998_238.out _; exact bx BK998.out), lb⟩
  rw [if_pos c101] at H
  have c101b0 := decide_eq_true c101
  clear c101
  by_cases c102 : 0 ≤ x108_2
  rotate_left
  ·
   rw [if_neg c102] at H
   exact absurd H (by simp)
  rw [if_pos c102] at H
  have c102b0 := decide_eq_true c102
  clear c102
  by_cases c103 : x108_2 < (t251.length : Int)
  rotate_left
  ·
   rw [if_neg c103] at H
   exact absurd H (by simp)
  rw [if_pos c103] at H
  have c103b0 := decide_eq_true c103
  clear c103
  by_cases c104 : (rd t251 x108_2) ≥ x5_1
  rotate_left
  ·
   rw [if_neg c104] at H
   have c104b0 := decide_eq_false c104
   clear c104
   simp only [Option.some.injEq, Prod.mk.injEq] at H
   obtain ⟨rfl, rfl, rfl⟩ := H
   have p254 : 0 ≤ (x108_2 : Int) := oda
   have q254 : x108_2 < (t251.length : Int) := oda
   obtain ⟨ad254, e254, hx254_0⟩ := Kd.at_int (Kd.R_reads' HO_106.out).2.2 x108_2 p254 q254
   cases e254
   replace p254 := eq_true p254
   replace q254 := eq_true q254
   go_wp2_with (first | ((with_reducible refine gate_callee (f := 51) rfl ?_); refine pl 115 Try.func51 #[.bool false, .int .i64 221] ?_; refine (proof_need.bad 221 _).mono ?_; rintro e w' ⟨rfl, rfl⟩; refine ⟨_, rfl, ?_⟩; (repeat (first | refine panic_then ?_ | refine panic_block ?_)); exact panic_body rfl (⟨Gave.no da rfl, (bx BK238.out), (bx BK999.out), (bx BK998.out), lb⟩)))
  rw [if_pos c104] at H
  have c104b0 := decide_eq_true c104
  clear c104
  have A105 := ak (show proof_need.f true 221 = some () from rfl)
  have H' := ak H
  clear H
  have p254 : 0 ≤ (x108_2 : Int) := oda
  have q254 : x108_2 < (t251.length : Int) := oda
  obtain ⟨ad254, e254, hx254_0⟩ := Kd.at_int (Kd.R_reads' HO_106.out).2.2 x108_2 p254 q254
  cases e254
  replace p254 := eq_true p254
  replace q254 := eq_true q254
  go_wp2_with (first | ((with_reducible refine gate_callee (f := 51) rfl ?_); refine gl 115 Try.func51 #[.bool true, .int .i64 221] ?_; (with_reducible refine (proof_need.calls true 221  _ A105.out).mono ?_); rintro e w' ⟨rfl, ⟨nd, rfl⟩⟩; refine ⟨_, rfl, ?_⟩))
  go_roundg k2
  case measure => have := HK1.out; have := HK2.out; omega
  case rel => exact ⟨(wrap64 (x108_2 + 1)), sr, H', ⟨by have := HK1.out; have := HK2.out; omega⟩, ⟨rx HO_106.out⟩, xb BK236, xb BK237, xb BK238, xb BK999, xb BK998, ⟨lb⟩⟩
 rw [if_pos c25] at H
 have c25b0 := decide_eq_true c25
 clear c25
 by_cases c26 : 0 ≤ x32_1
 rotate_left
 ·
  rw [if_neg c26] at H
  exact absurd H (by simp)
 rw [if_pos c26] at H
 have c26b0 := decide_eq_true c26
 clear c26
 by_cases c27 : x32_1 < (l1_0.length : Int)
 rotate_left
 ·
  rw [if_neg c27] at H
  exact absurd H (by simp)
 rw [if_pos c27] at H
 have c27b0 := decide_eq_true c27
 clear c27
 by_cases c28 : (l1_0.length : Int) = 0
 ·
  rw [if_pos c28] at H
  exact absurd H (by simp)
 rw [if_neg c28] at H
 have c28b0 := bn c28
 have c28b1 : ((l1_0.length : Int) != 0) = true := bne_iff_ne.mpr c28
 have c28b2 : ¬ (l1_0 = []) := fun h_ => c28 (by rw [h_]; rfl)
 obtain ⟨ji29, hji29⟩ : ∃ j_ : Int, (Int.tmod (wrap64 (x32_1 + 1)) (l1_0.length : Int)) = j_ := ⟨_, rfl⟩
 replace H : (if 0 ≤ (ji29) then (if (ji29) < (l1_0.length : Int) then (if (rd l1_0 x32_1) ≥ 0 then (if (rd l1_0 x32_1) < (l0_1.length : Int) then (if (rd l1_0 (ji29)) ≥ 0 then (if (rd l1_0 (ji29)) < (l0_1.length : Int) then (if 0 ≤ (rd l1_0 x32_1) then (if 0 ≤ (rd l1_0 (ji29)) then (if ((rd_T98 l0_1 (rd l1_0 x32_1)).f1) = ((rd_T98 l0_1 (rd l1_0 (ji29))).f0) then (if 0 ≤ ((rd_T98 l0_1 (rd l1_0 x32_1)).f1) then (if ((rd_T98 l0_1 (rd l1_0 x32_1)).f1) < (x4_1.length : Int) then (if (rdOf false x4_1 ((rd_T98 l0_1 (rd l1_0 x32_1)).f1) = true) then (some (221, a2_0, a2_1)) else (proof_Mean_1.l0 k1 (l1_0.length : Int) (x4_1.set (((rd_T98 l0_1 (rd l1_0 x32_1)).f1) : Int).toNat true) (wrap64 (x5_1 + ((rd_T98 l0_1 (rd l1_0 x32_1)).f3))) l1_0 (l1_0.length : Int) (wrap64 (x32_1 + 1)) a0_0 l0_1 l1_0 l1_1 a2_0 a2_1)) else (none)) else (none)) else (some (221, a2_0, a2_1))) else (none)) else (none)) else (some (221, a2_0, a2_1))) else (some (221, a2_0, a2_1))) else (some (221, a2_0, a2_1))) else (some (221, a2_0, a2_1))) else (none)) else (none)) = some (r1, r2, r3) := by first | (rw [hji29] at H; exact H) | (simp only [hji29] at H ⊢; exact H)
 by_cases c30 : 0 ≤ (ji29)
 rotate_left
 ·
  rw [if_neg c30] at H
  exact absurd H (by simp)
 rw [if_pos c30] at H
 have c30b0 := decide_eq_true c30
 clear c30
 by_cases c31 : (ji29) < (l1_0.length : Int)
 rotate_left
 ·
  rw [if_neg c31] at H
  exact absurd H (by simp)
 rw [if_pos c31] at H
 have c31b0 := decide_eq_true c31
 clear c31
 by_cases c32 : (rd l1_0 x32_1) ≥ 0
 rotate_left
 ·
  rw [if_neg c32] at H
  have c32b0 := decide_eq_false c32
  clear c32
  simp only [Option.some.injEq, Prod.mk.injEq] at H
  obtain ⟨rfl, rfl, rfl⟩ := H
  have p243 : 0 ≤ (x32_1 : Int) := oda
  have q243 : x32_1 < (l1_0.length : Int) := oda
  obtain ⟨ad243, e243, hx243_0⟩ := Kd.at_int HR1_0.out x32_1 p243 q243
  cases e243
  (try replace hx243_0 := hbc HB hx243_0)
  replace p243 := eq_true p243
  replace q243 := eq_true q243
  try go_wp2
  have n0_ := ak (Kd.R_drew HO_4.out)
  have n1_ := ak (blk_drew BK236.out)
  have n2_ := ak (blk_drew BK237.out)
  have n3_ := ak (blk_drew BK238.out)
  have n4_ := ak (blk_drew BK999.out)
  have n5_ := ak (blk_drew BK998.out)
  have n6_ := ak (below_drew1 HB.out)
  clear HO_4
  clear BK236
  clear BK237
  clear BK238
  clear BK999
  clear BK998
  clear HB
  have HO_4 := n0_
  have BK236 := n1_
  have BK237 := n2_
  have BK238 := n3_
  have BK999 := n4_
  have BK998 := n5_
  have HB := n6_
  clear n0_ n1_ n2_ n3_ n4_ n5_ n6_
  have p244 : 0 ≤ ((ji29) : Int) := oda
  have q244 : (ji29) < (l1_0.length : Int) := oda
  obtain ⟨ad244, e244, hx244_0⟩ := Kd.at_int HR1_0.out (ji29) p244 q244
  have hw244_0 := hx244_0
  obtain rfl : ad243 = ad244 := (by injection e244)
  (try replace hx244_0 := hbc HB hx244_0)
  replace p244 := eq_true p244
  replace q244 := eq_true q244
  refine stC 11 [] (cX (bc0 BK237) (cX (bc1 BK237) (cY (hbc HB hw244_0)))) proof_Mean_1.tab8 proof_Mean_1.bits8 fun hHeld HT_ HW_ => ?_
  generalize wr.drew = w87 at HO_4 BK236 BK237 BK238 BK999 BK998 HB hx244_0 hHeld ⊢
  refine pv HT_ 0 37 ?_; refine pv HT_ 2 39 ?_; refine pv HT_ 3 40 ?_; refine pv HT_ 4 41 ?_; refine tv HT_ HW_ hHeld 1 38 ?_; refine tv HT_ HW_ hHeld 5 42 ?_; refine pv HT_ 6 43 ?_; refine pv HT_ 7 44 ?_; refine pv HT_ 8 45 ?_; refine tv HT_ HW_ hHeld 9 46 ?_; refine pv HT_ 10 8 ?_
  refine done_ (done_of HT_.out (by kernel_rfl)) ?_
  try go_wp2_with (first | ((with_reducible refine gate_callee (f := 51) rfl ?_); refine pl 67 Try.func51 #[.bool false, .int .i64 221] ?_; refine (proof_need.bad 221 _).mono ?_; rintro e w' ⟨rfl, rfl⟩; refine ⟨_, rfl, ?_⟩; (repeat (first | refine panic_then ?_ | refine panic_block ?_)); exact panic_body rfl (⟨Gave.no da rfl, (bx BK238.out), (bx BK999.out), (bx BK998.out), lb⟩)))
 rw [if_pos c32] at H
 have c32b0 := decide_eq_true c32
 clear c32
 by_cases c33 : (rd l1_0 x32_1) < (l0_1.length : Int)
 rotate_left
 ·
  rw [if_neg c33] at H
  have c33b0 := decide_eq_false c33
  clear c33
  simp only [Option.some.injEq, Prod.mk.injEq] at H
  obtain ⟨rfl, rfl, rfl⟩ := H
  have p243 : 0 ≤ (x32_1 : Int) := oda
  have q243 : x32_1 < (l1_0.length : Int) := oda
  obtain ⟨ad243, e243, hx243_0⟩ := Kd.at_int HR1_0.out x32_1 p243 q243
  cases e243
  (try replace hx243_0 := hbc HB hx243_0)
  replace p243 := eq_true p243
  replace q243 := eq_true q243
  try go_wp2
  have n0_ := ak (Kd.R_drew HO_4.out)
  have n1_ := ak (blk_drew BK236.out)
  have n2_ := ak (blk_drew BK237.out)
  have n3_ := ak (blk_drew BK238.out)
  have n4_ := ak (blk_drew BK999.out)
  have n5_ := ak (blk_drew BK998.out)
  have n6_ := ak (below_drew1 HB.out)
  clear HO_4
  clear BK236
  clear BK237
  clear BK238
  clear BK999
  clear BK998
  clear HB
  have HO_4 := n0_
  have BK236 := n1_
  have BK237 := n2_
  have BK238 := n3_
  have BK999 := n4_
  have BK998 := n5_
  have HB := n6_
  clear n0_ n1_ n2_ n3_ n4_ n5_ n6_
  have p244 : 0 ≤ ((ji29) : Int) := oda
  have q244 : (ji29) < (l1_0.length : Int) := oda
  obtain ⟨ad244, e244, hx244_0⟩ := Kd.at_int HR1_0.out (ji29) p244 q244
  have hw244_0 := hx244_0
  obtain rfl : ad243 = ad244 := (by injection e244)
  (try replace hx244_0 := hbc HB hx244_0)
  replace p244 := eq_true p244
  replace q244 := eq_true q244
  refine stC 11 [] (cX (bc0 BK237) (cX (bc1 BK237) (cY (hbc HB hw244_0)))) proof_Mean_1.tab8 proof_Mean_1.bits8 fun hHeld HT_ HW_ => ?_
  generalize wr.drew = w81 at HO_4 BK236 BK237 BK238 BK999 BK998 HB hx244_0 hHeld ⊢
  refine pv HT_ 0 37 ?_; refine pv HT_ 2 39 ?_; refine pv HT_ 3 40 ?_; refine pv HT_ 4 41 ?_; refine tv HT_ HW_ hHeld 1 38 ?_; refine tv HT_ HW_ hHeld 5 42 ?_; refine pv HT_ 6 43 ?_; refine pv HT_ 7 44 ?_; refine pv HT_ 8 45 ?_; refine tv HT_ HW_ hHeld 9 46 ?_; refine pv HT_ 10 8 ?_
  refine done_ (done_of HT_.out (by kernel_rfl)) ?_
  have hnb82 := NB236_237.out
  have hnc82 := NB237_236.out
  have hnb83 := NB236_238.out
  have hnc83 := NB238_236.out
  have hnb84 := NB236_999.out
  have hnc84 := NB999_236.out
  have hnb85 := NB236_998.out
  have hnc85 := NB998_236.out
  have hcz86_0 : w81.cell? ⟨gb236, 0, none⟩ = some (.int .i64 a0_0) := (blk_cell BK236.out 0).trans rfl
  have hcz86_1 : w81.cell? ⟨gb236, 1, none⟩ = some (.slice A0_1 l0_1.length c0_1) := (blk_cell BK236.out 1).trans rfl
  have hfz86_0 := blk_frozen BK236.out 0
  have hfz86_1 := blk_frozen BK236.out 1
  try go_wp2_with (first | ((with_reducible refine gate_callee (f := 51) rfl ?_); refine pl 67 Try.func51 #[.bool false, .int .i64 221] ?_; refine (proof_need.bad 221 _).mono ?_; rintro e w' ⟨rfl, rfl⟩; refine ⟨_, rfl, ?_⟩; (repeat (first | refine panic_then ?_ | refine panic_block ?_)); exact panic_body rfl (⟨Gave.no da rfl, (bx BK238.out), (bx BK999.out), (bx BK998.out), lb⟩)))
 rw [if_pos c33] at H
 have c33b0 := decide_eq_true c33
 clear c33
 by_cases c34 : (rd l1_0 (ji29)) ≥ 0
 rotate_left
 ·
  rw [if_neg c34] at H
  have c34b0 := decide_eq_false c34
  clear c34
  simp only [Option.some.injEq, Prod.mk.injEq] at H
  obtain ⟨rfl, rfl, rfl⟩ := H
  have p243 : 0 ≤ (x32_1 : Int) := oda
  have q243 : x32_1 < (l1_0.length : Int) := oda
  obtain ⟨ad243, e243, hx243_0⟩ := Kd.at_int HR1_0.out x32_1 p243 q243
  cases e243
  (try replace hx243_0 := hbc HB hx243_0)
  replace p243 := eq_true p243
  replace q243 := eq_true q243
  try go_wp2
  have n0_ := ak (Kd.R_drew HO_4.out)
  have n1_ := ak (blk_drew BK236.out)
  have n2_ := ak (blk_drew BK237.out)
  have n3_ := ak (blk_drew BK238.out)
  have n4_ := ak (blk_drew BK999.out)
  have n5_ := ak (blk_drew BK998.out)
  have n6_ := ak (below_drew1 HB.out)
  clear HO_4
  clear BK236
  clear BK237
  clear BK238
  clear BK999
  clear BK998
  clear HB
  have HO_4 := n0_
  have BK236 := n1_
  have BK237 := n2_
  have BK238 := n3_
  have BK999 := n4_
  have BK998 := n5_
  have HB := n6_
  clear n0_ n1_ n2_ n3_ n4_ n5_ n6_
  have p244 : 0 ≤ ((ji29) : Int) := oda
  have q244 : (ji29) < (l1_0.length : Int) := oda
  obtain ⟨ad244, e244, hx244_0⟩ := Kd.at_int HR1_0.out (ji29) p244 q244
  have hw244_0 := hx244_0
  obtain rfl : ad243 = ad244 := (by injection e244)
  (try replace hx244_0 := hbc HB hx244_0)
  replace p244 := eq_true p244
  replace q244 := eq_true q244
  refine stC 11 [] (cX (bc0 BK237) (cX (bc1 BK237) (cY (hbc HB hw244_0)))) proof_Mean_1.tab8 proof_Mean_1.bits8 fun hHeld HT_ HW_ => ?_
  generalize wr.drew = w75 at HO_4 BK236 BK237 BK238 BK999 BK998 HB hx244_0 hHeld ⊢
  refine pv HT_ 0 37 ?_; refine pv HT_ 2 39 ?_; refine pv HT_ 3 40 ?_; refine pv HT_ 4 41 ?_; refine tv HT_ HW_ hHeld 1 38 ?_; refine tv HT_ HW_ hHeld 5 42 ?_; refine pv HT_ 6 43 ?_; refine pv HT_ 7 44 ?_; refine pv HT_ 8 45 ?_; refine tv HT_ HW_ hHeld 9 46 ?_; refine pv HT_ 10 8 ?_
  refine done_ (done_of HT_.out (by kernel_rfl)) ?_
  have hnb76 := NB236_237.out
  have hnc76 := NB237_236.out
  have hnb77 := NB236_238.out
  have hnc77 := NB238_236.out
  have hnb78 := NB236_999.out
  have hnc78 := NB999_236.out
  have hnb79 := NB236_998.out
  have hnc79 := NB998_236.out
  have hcz80_0 : w75.cell? ⟨gb236, 0, none⟩ = some (.int .i64 a0_0) := (blk_cell BK236.out 0).trans rfl
  have hcz80_1 : w75.cell? ⟨gb236, 1, none⟩ = some (.slice A0_1 l0_1.length c0_1) := (blk_cell BK236.out 1).trans rfl
  have hfz80_0 := blk_frozen BK236.out 0
  have hfz80_1 := blk_frozen BK236.out 1
  try go_wp2_with (first | ((with_reducible refine gate_callee (f := 51) rfl ?_); refine pl 67 Try.func51 #[.bool false, .int .i64 221] ?_; refine (proof_need.bad 221 _).mono ?_; rintro e w' ⟨rfl, rfl⟩; refine ⟨_, rfl, ?_⟩; (repeat (first | refine panic_then ?_ | refine panic_block ?_)); exact panic_body rfl (⟨Gave.no da rfl, (bx BK238.out), (bx BK999.out), (bx BK998.out), lb⟩)))
 rw [if_pos c34] at H
 have c34b0 := decide_eq_true c34
 clear c34
 by_cases c35 : (rd l1_0 (ji29)) < (l0_1.length : Int)
 rotate_left
 ·
  rw [if_neg c35] at H
  have c35b0 := decide_eq_false c35
  clear c35
  simp only [Option.some.injEq, Prod.mk.injEq] at H
  obtain ⟨rfl, rfl, rfl⟩ := H
  have p243 : 0 ≤ (x32_1 : Int) := oda
  have q243 : x32_1 < (l1_0.length : Int) := oda
  obtain ⟨ad243, e243, hx243_0⟩ := Kd.at_int HR1_0.out x32_1 p243 q243
  cases e243
  (try replace hx243_0 := hbc HB hx243_0)
  replace p243 := eq_true p243
  replace q243 := eq_true q243
  try go_wp2
  have n0_ := ak (Kd.R_drew HO_4.out)
  have n1_ := ak (blk_drew BK236.out)
  have n2_ := ak (blk_drew BK237.out)
  have n3_ := ak (blk_drew BK238.out)
  have n4_ := ak (blk_drew BK999.out)
  have n5_ := ak (blk_drew BK998.out)
  have n6_ := ak (below_drew1 HB.out)
  clear HO_4
  clear BK236
  clear BK237
  clear BK238
  clear BK999
  clear BK998
  clear HB
  have HO_4 := n0_
  have BK236 := n1_
  have BK237 := n2_
  have BK238 := n3_
  have BK999 := n4_
  have BK998 := n5_
  have HB := n6_
  clear n0_ n1_ n2_ n3_ n4_ n5_ n6_
  have p244 : 0 ≤ ((ji29) : Int) := oda
  have q244 : (ji29) < (l1_0.length : Int) := oda
  obtain ⟨ad244, e244, hx244_0⟩ := Kd.at_int HR1_0.out (ji29) p244 q244
  have hw244_0 := hx244_0
  obtain rfl : ad243 = ad244 := (by injection e244)
  (try replace hx244_0 := hbc HB hx244_0)
  replace p244 := eq_true p244
  replace q244 := eq_true q244
  refine stC 11 [] (cX (bc0 BK237) (cX (bc1 BK237) (cY (hbc HB hw244_0)))) proof_Mean_1.tab8 proof_Mean_1.bits8 fun hHeld HT_ HW_ => ?_
  generalize wr.drew = w69 at HO_4 BK236 BK237 BK238 BK999 BK998 HB hx244_0 hHeld ⊢
  refine pv HT_ 0 37 ?_; refine pv HT_ 2 39 ?_; refine pv HT_ 3 40 ?_; refine pv HT_ 4 41 ?_; refine tv HT_ HW_ hHeld 1 38 ?_; refine tv HT_ HW_ hHeld 5 42 ?_; refine pv HT_ 6 43 ?_; refine pv HT_ 7 44 ?_; refine pv HT_ 8 45 ?_; refine tv HT_ HW_ hHeld 9 46 ?_; refine pv HT_ 10 8 ?_
  refine done_ (done_of HT_.out (by kernel_rfl)) ?_
  have hnb70 := NB236_237.out
  have hnc70 := NB237_236.out
  have hnb71 := NB236_238.out
  have hnc71 := NB238_236.out
  have hnb72 := NB236_999.out
  have hnc72 := NB999_236.out
  have hnb73 := NB236_998.out
  have hnc73 := NB998_236.out
  have hcz74_0 : w69.cell? ⟨gb236, 0, none⟩ = some (.int .i64 a0_0) := (blk_cell BK236.out 0).trans rfl
  have hcz74_1 : w69.cell? ⟨gb236, 1, none⟩ = some (.slice A0_1 l0_1.length c0_1) := (blk_cell BK236.out 1).trans rfl
  have hfz74_0 := blk_frozen BK236.out 0
  have hfz74_1 := blk_frozen BK236.out 1
  try go_wp2_with (first | ((with_reducible refine gate_callee (f := 51) rfl ?_); refine pl 67 Try.func51 #[.bool false, .int .i64 221] ?_; refine (proof_need.bad 221 _).mono ?_; rintro e w' ⟨rfl, rfl⟩; refine ⟨_, rfl, ?_⟩; (repeat (first | refine panic_then ?_ | refine panic_block ?_)); exact panic_body rfl (⟨Gave.no da rfl, (bx BK238.out), (bx BK999.out), (bx BK998.out), lb⟩)))
 rw [if_pos c35] at H
 have c35b0 := decide_eq_true c35
 clear c35
 have A36 := ak (show proof_need.f true 221 = some () from rfl)
 by_cases c37 : 0 ≤ (rd l1_0 x32_1)
 rotate_left
 ·
  rw [if_neg c37] at H
  exact absurd H (by simp)
 rw [if_pos c37] at H
 have c37b0 := decide_eq_true c37
 clear c37
 by_cases c38 : 0 ≤ (rd l1_0 (ji29))
 rotate_left
 ·
  rw [if_neg c38] at H
  exact absurd H (by simp)
 rw [if_pos c38] at H
 have c38b0 := decide_eq_true c38
 clear c38
 by_cases c39 : ((rd_T98 l0_1 (rd l1_0 x32_1)).f1) = ((rd_T98 l0_1 (rd l1_0 (ji29))).f0)
 rotate_left
 ·
  rw [if_neg c39] at H
  have c39b0 := bn c39
  have c39b1 : (((rd_T98 l0_1 (rd l1_0 x32_1)).f1) != ((rd_T98 l0_1 (rd l1_0 (ji29))).f0)) = true := bne_iff_ne.mpr c39
  simp only [Option.some.injEq, Prod.mk.injEq] at H
  obtain ⟨rfl, rfl, rfl⟩ := H
  have p243 : 0 ≤ (x32_1 : Int) := oda
  have q243 : x32_1 < (l1_0.length : Int) := oda
  obtain ⟨ad243, e243, hx243_0⟩ := Kd.at_int HR1_0.out x32_1 p243 q243
  cases e243
  (try replace hx243_0 := hbc HB hx243_0)
  replace p243 := eq_true p243
  replace q243 := eq_true q243
  try go_wp2
  have n0_ := ak (Kd.R_drew HO_4.out)
  have n1_ := ak (blk_drew BK236.out)
  have n2_ := ak (blk_drew BK237.out)
  have n3_ := ak (blk_drew BK238.out)
  have n4_ := ak (blk_drew BK999.out)
  have n5_ := ak (blk_drew BK998.out)
  have n6_ := ak (below_drew1 HB.out)
  clear HO_4
  clear BK236
  clear BK237
  clear BK238
  clear BK999
  clear BK998
  clear HB
  have HO_4 := n0_
  have BK236 := n1_
  have BK237 := n2_
  have BK238 := n3_
  have BK999 := n4_
  have BK998 := n5_
  have HB := n6_
  clear n0_ n1_ n2_ n3_ n4_ n5_ n6_
  have p244 : 0 ≤ ((ji29) : Int) := oda
  have q244 : (ji29) < (l1_0.length : Int) := oda
  obtain ⟨ad244, e244, hx244_0⟩ := Kd.at_int HR1_0.out (ji29) p244 q244
  have hw244_0 := hx244_0
  obtain rfl : ad243 = ad244 := (by injection e244)
  (try replace hx244_0 := hbc HB hx244_0)
  replace p244 := eq_true p244
  replace q244 := eq_true q244
  refine stC 11 [] (cX (bc0 BK237) (cX (bc1 BK237) (cY (hbc HB hw244_0)))) proof_Mean_1.tab8 proof_Mean_1.bits8 fun hHeld HT_ HW_ => ?_
  generalize wr.drew = w63 at HO_4 BK236 BK237 BK238 BK999 BK998 HB hx244_0 hHeld ⊢
  refine pv HT_ 0 37 ?_; refine pv HT_ 2 39 ?_; refine pv HT_ 3 40 ?_; refine pv HT_ 4 41 ?_; refine tv HT_ HW_ hHeld 1 38 ?_; refine tv HT_ HW_ hHeld 5 42 ?_; refine pv HT_ 6 43 ?_; refine pv HT_ 7 44 ?_; refine pv HT_ 8 45 ?_; refine tv HT_ HW_ hHeld 9 46 ?_; refine pv HT_ 10 8 ?_
  refine done_ (done_of HT_.out (by kernel_rfl)) ?_
  have hnb64 := NB236_237.out
  have hnc64 := NB237_236.out
  have hnb65 := NB236_238.out
  have hnc65 := NB238_236.out
  have hnb66 := NB236_999.out
  have hnc66 := NB999_236.out
  have hnb67 := NB236_998.out
  have hnc67 := NB998_236.out
  have hcz68_0 : w63.cell? ⟨gb236, 0, none⟩ = some (.int .i64 a0_0) := (blk_cell BK236.out 0).trans rfl
  have hcz68_1 : w63.cell? ⟨gb236, 1, none⟩ = some (.slice A0_1 l0_1.length c0_1) := (blk_cell BK236.out 1).trans rfl
  have hfz68_0 := blk_frozen BK236.out 0
  have hfz68_1 := blk_frozen BK236.out 1
  try go_wp2_with (first | ((with_reducible refine gate_callee (f := 51) rfl ?_); refine gl 67 Try.func51 #[.bool true, .int .i64 221] ?_; (with_reducible refine (proof_need.calls true 221  _ A36.out).mono ?_); rintro e w' ⟨rfl, ⟨nd, rfl⟩⟩; refine ⟨_, rfl, ?_⟩; obtain ⟨p245, q245, ad245, e245, hx245_0, hx245_1, hx245_2, hx245_3⟩ := wq (at_T98 HR0_1.out (rd l1_0 x32_1)); cases e245; replace hx245_0 := hbc HB hx245_0; replace hx245_1 := hbc HB hx245_1; replace hx245_2 := hbc HB hx245_2; replace hx245_3 := hbc HB hx245_3; obtain ⟨p246, q246, ad246, e246, hx246_0, hx246_1, hx246_2, hx246_3⟩ := wq (at_T98 HR0_1.out (rd l1_0 (ji29))); obtain rfl : ad245 = ad246 := (by injection e246); replace hx246_0 := hbc HB hx246_0; replace hx246_1 := hbc HB hx246_1; replace hx246_2 := hbc HB hx246_2; replace hx246_3 := hbc HB hx246_3) | ((with_reducible refine gate_callee (f := 51) rfl ?_); refine pl 89 Try.func51 #[.bool false, .int .i64 221] ?_; refine (proof_need.bad 221 _).mono ?_; rintro e w' ⟨rfl, rfl⟩; refine ⟨_, rfl, ?_⟩; (repeat (first | refine panic_then ?_ | refine panic_block ?_)); exact panic_body rfl (⟨Gave.no da rfl, (bx BK238.out), (bx BK999.out), (bx BK998.out), lb⟩)))
 rw [if_pos c39] at H
 have c39b0 := be c39
 have c39b1 : (((rd_T98 l0_1 (rd l1_0 x32_1)).f1) != ((rd_T98 l0_1 (rd l1_0 (ji29))).f0)) = false := bne_eq_false_iff_eq.mpr c39
 clear c39
 by_cases c40 : 0 ≤ ((rd_T98 l0_1 (rd l1_0 x32_1)).f1)
 rotate_left
 ·
  rw [if_neg c40] at H
  exact absurd H (by simp)
 rw [if_pos c40] at H
 have c40b0 := decide_eq_true c40
 clear c40
 by_cases c41 : ((rd_T98 l0_1 (rd l1_0 x32_1)).f1) < (x4_1.length : Int)
 rotate_left
 ·
  rw [if_neg c41] at H
  exact absurd H (by simp)
 rw [if_pos c41] at H
 have c41b0 := decide_eq_true c41
 clear c41
 obtain ⟨bq42, hbq42⟩ : ∃ b_ : Bool, b_ = (rdOf false x4_1 ((rd_T98 l0_1 (rd l1_0 x32_1)).f1)) := ⟨_, rfl⟩
 replace H : (if (bq42 = true) then (some (221, a2_0, a2_1)) else (proof_Mean_1.l0 k1 (l1_0.length : Int) (x4_1.set (((rd_T98 l0_1 (rd l1_0 x32_1)).f1) : Int).toNat true) (wrap64 (x5_1 + ((rd_T98 l0_1 (rd l1_0 x32_1)).f3))) l1_0 (l1_0.length : Int) (wrap64 (x32_1 + 1)) a0_0 l0_1 l1_0 l1_1 a2_0 a2_1)) = some (r1, r2, r3) := by rw [← hbq42] at H; exact H
 have Nbq42 := ak hbq42
 clear hbq42
 by_cases c43 : (bq42 = true)
 ·
  subst c43
  have H1 : (some (221, a2_0, a2_1)) = some (r1, r2, r3) := by rw [if_pos rfl] at H; exact H
  clear H
  have H := H1
  clear H1
  simp only [Option.some.injEq, Prod.mk.injEq] at H
  obtain ⟨rfl, rfl, rfl⟩ := H
  have p243 : 0 ≤ (x32_1 : Int) := oda
  have q243 : x32_1 < (l1_0.length : Int) := oda
  obtain ⟨ad243, e243, hx243_0⟩ := Kd.at_int HR1_0.out x32_1 p243 q243
  cases e243
  (try replace hx243_0 := hbc HB hx243_0)
  replace p243 := eq_true p243
  replace q243 := eq_true q243
  try go_wp2
  have n0_ := ak (Kd.R_drew HO_4.out)
  have n1_ := ak (blk_drew BK236.out)
  have n2_ := ak (blk_drew BK237.out)
  have n3_ := ak (blk_drew BK238.out)
  have n4_ := ak (blk_drew BK999.out)
  have n5_ := ak (blk_drew BK998.out)
  have n6_ := ak (below_drew1 HB.out)
  clear HO_4
  clear BK236
  clear BK237
  clear BK238
  clear BK999
  clear BK998
  clear HB
  have HO_4 := n0_
  have BK236 := n1_
  have BK237 := n2_
  have BK238 := n3_
  have BK999 := n4_
  have BK998 := n5_
  have HB := n6_
  clear n0_ n1_ n2_ n3_ n4_ n5_ n6_
  have p244 : 0 ≤ ((ji29) : Int) := oda
  have q244 : (ji29) < (l1_0.length : Int) := oda
  obtain ⟨ad244, e244, hx244_0⟩ := Kd.at_int HR1_0.out (ji29) p244 q244
  have hw244_0 := hx244_0
  obtain rfl : ad243 = ad244 := (by injection e244)
  (try replace hx244_0 := hbc HB hx244_0)
  replace p244 := eq_true p244
  replace q244 := eq_true q244
  refine stC 11 [] (cX (bc0 BK237) (cX (bc1 BK237) (cY (hbc HB hw244_0)))) proof_Mean_1.tab8 proof_Mean_1.bits8 fun hHeld HT_ HW_ => ?_
  generalize wr.drew = w44 at HO_4 BK236 BK237 BK238 BK999 BK998 HB hx244_0 hHeld ⊢
  refine pv HT_ 0 37 ?_; refine pv HT_ 2 39 ?_; refine pv HT_ 3 40 ?_; refine pv HT_ 4 41 ?_; refine tv HT_ HW_ hHeld 1 38 ?_; refine tv HT_ HW_ hHeld 5 42 ?_; refine pv HT_ 6 43 ?_; refine pv HT_ 7 44 ?_; refine pv HT_ 8 45 ?_; refine tv HT_ HW_ hHeld 9 46 ?_; refine pv HT_ 10 8 ?_
  refine done_ (done_of HT_.out (by kernel_rfl)) ?_
  have hnb45 := NB236_237.out
  have hnc45 := NB237_236.out
  have hnb46 := NB236_238.out
  have hnc46 := NB238_236.out
  have hnb47 := NB236_999.out
  have hnc47 := NB999_236.out
  have hnb48 := NB236_998.out
  have hnc48 := NB998_236.out
  have hcz49_0 : w44.cell? ⟨gb236, 0, none⟩ = some (.int .i64 a0_0) := (blk_cell BK236.out 0).trans rfl
  have hcz49_1 : w44.cell? ⟨gb236, 1, none⟩ = some (.slice A0_1 l0_1.length c0_1) := (blk_cell BK236.out 1).trans rfl
  have hfz49_0 := blk_frozen BK236.out 0
  have hfz49_1 := blk_frozen BK236.out 1
  try go_wp2_with (first | ((with_reducible refine gate_callee (f := 51) rfl ?_); refine gl 67 Try.func51 #[.bool true, .int .i64 221] ?_; (with_reducible refine (proof_need.calls true 221  _ A36.out).mono ?_); rintro e w' ⟨rfl, ⟨nd, rfl⟩⟩; refine ⟨_, rfl, ?_⟩; obtain ⟨p245, q245, ad245, e245, hx245_0, hx245_1, hx245_2, hx245_3⟩ := wq (at_T98 HR0_1.out (rd l1_0 x32_1)); cases e245; replace hx245_0 := hbc HB hx245_0; replace hx245_1 := hbc HB hx245_1; replace hx245_2 := hbc HB hx245_2; replace hx245_3 := hbc HB hx245_3; obtain ⟨p246, q246, ad246, e246, hx246_0, hx246_1, hx246_2, hx246_3⟩ := wq (at_T98 HR0_1.out (rd l1_0 (ji29))); obtain rfl : ad245 = ad246 := (by injection e246); replace hx246_0 := hbc HB hx246_0; replace hx246_1 := hbc HB hx246_1; replace hx246_2 := hbc HB hx246_2; replace hx246_3 := hbc HB hx246_3; obtain ⟨Ao50, co50, eo50⟩ := Kd.R_slice HO_4.out; subst eo50; obtain ⟨p247, q247, ad247, e247, hx247_0⟩ := wq (Kd.at_bool (Kd.R_reads' HO_4.out).2.2 ((rd_T98 l0_1 (rd l1_0 x32_1)).f1)); (try rw [← Nbq42.out] at hx247_0); cases e247) | ((with_reducible refine gate_callee (f := 51) rfl ?_); refine pl 89 Try.func51 #[.bool false, .int .i64 221] ?_; refine (proof_need.bad 221 _).mono ?_; rintro e w' ⟨rfl, rfl⟩; refine ⟨_, rfl, ?_⟩; (repeat (first | refine panic_then ?_ | refine panic_block ?_)); exact panic_body rfl (⟨Gave.no da rfl, (bx BK238.out), (bx BK999.out), (bx BK998.out), lb⟩)))
 replace c43 := Bool.eq_false_iff.mpr c43
 subst c43
 have H1 : (proof_Mean_1.l0 k1 (l1_0.length : Int) (x4_1.set (((rd_T98 l0_1 (rd l1_0 x32_1)).f1) : Int).toNat true) (wrap64 (x5_1 + ((rd_T98 l0_1 (rd l1_0 x32_1)).f3))) l1_0 (l1_0.length : Int) (wrap64 (x32_1 + 1)) a0_0 l0_1 l1_0 l1_1 a2_0 a2_1) = some (r1, r2, r3) := by rw [if_neg (show ¬ (false = true) by decide)] at H; exact H
 clear H
 have H := H1
 clear H1
 have A51 := ak (show proof_need.f true 221 = some () from rfl)
 obtain ⟨y248, hy248⟩ : ∃ y_ : List Bool, y_ = (x4_1.set (((rd_T98 l0_1 (rd l1_0 x32_1)).f1) : Int).toNat true) := ⟨_, rfl⟩
 replace H : (proof_Mean_1.l0 k1 (l1_0.length : Int) y248 (wrap64 (x5_1 + ((rd_T98 l0_1 (rd l1_0 x32_1)).f3))) l1_0 (l1_0.length : Int) (wrap64 (x32_1 + 1)) a0_0 l0_1 l1_0 l1_1 a2_0 a2_1) = some (r1, r2, r3) := by first | (rw [hy248]; exact H) | exact H
 have Ny248 := ak hy248
 clear hy248
 have H' := ak H
 clear H
 have p243 : 0 ≤ (x32_1 : Int) := oda
 have q243 : x32_1 < (l1_0.length : Int) := oda
 obtain ⟨ad243, e243, hx243_0⟩ := Kd.at_int HR1_0.out x32_1 p243 q243
 cases e243
 (try replace hx243_0 := hbc HB hx243_0)
 replace p243 := eq_true p243
 replace q243 := eq_true q243
 try go_wp2
 have n0_ := ak (Kd.R_drew HO_4.out)
 have n1_ := ak (blk_drew BK236.out)
 have n2_ := ak (blk_drew BK237.out)
 have n3_ := ak (blk_drew BK238.out)
 have n4_ := ak (blk_drew BK999.out)
 have n5_ := ak (blk_drew BK998.out)
 have n6_ := ak (below_drew1 HB.out)
 clear HO_4
 clear BK236
 clear BK237
 clear BK238
 clear BK999
 clear BK998
 clear HB
 have HO_4 := n0_
 have BK236 := n1_
 have BK237 := n2_
 have BK238 := n3_
 have BK999 := n4_
 have BK998 := n5_
 have HB := n6_
 clear n0_ n1_ n2_ n3_ n4_ n5_ n6_
 have p244 : 0 ≤ ((ji29) : Int) := oda
 have q244 : (ji29) < (l1_0.length : Int) := oda
 obtain ⟨ad244, e244, hx244_0⟩ := Kd.at_int HR1_0.out (ji29) p244 q244
 have hw244_0 := hx244_0
 obtain rfl : ad243 = ad244 := (by injection e244)
 (try replace hx244_0 := hbc HB hx244_0)
 replace p244 := eq_true p244
 replace q244 := eq_true q244
 refine stC 11 [] (cX (bc0 BK237) (cX (bc1 BK237) (cY (hbc HB hw244_0)))) proof_Mean_1.tab8 proof_Mean_1.bits8 fun hHeld HT_ HW_ => ?_
 generalize wr.drew = w53 at HO_4 BK236 BK237 BK238 BK999 BK998 HB hx244_0 hHeld ⊢
 refine pv HT_ 0 37 ?_; refine pv HT_ 2 39 ?_; refine pv HT_ 3 40 ?_; refine pv HT_ 4 41 ?_; refine tv HT_ HW_ hHeld 1 38 ?_; refine tv HT_ HW_ hHeld 5 42 ?_; refine pv HT_ 6 43 ?_; refine pv HT_ 7 44 ?_; refine pv HT_ 8 45 ?_; refine tv HT_ HW_ hHeld 9 46 ?_; refine pv HT_ 10 8 ?_
 refine done_ (done_of HT_.out (by kernel_rfl)) ?_
 have hnb54 := NB236_237.out
 have hnc54 := NB237_236.out
 have hnb55 := NB236_238.out
 have hnc55 := NB238_236.out
 have hnb56 := NB236_999.out
 have hnc56 := NB999_236.out
 have hnb57 := NB236_998.out
 have hnc57 := NB998_236.out
 have hcz58_0 : w53.cell? ⟨gb236, 0, none⟩ = some (.int .i64 a0_0) := (blk_cell BK236.out 0).trans rfl
 have hcz58_1 : w53.cell? ⟨gb236, 1, none⟩ = some (.slice A0_1 l0_1.length c0_1) := (blk_cell BK236.out 1).trans rfl
 have hfz58_0 := blk_frozen BK236.out 0
 have hfz58_1 := blk_frozen BK236.out 1
 try go_wp2_with (first | ((with_reducible refine gate_callee (f := 51) rfl ?_); refine gl 67 Try.func51 #[.bool true, .int .i64 221] ?_; (with_reducible refine (proof_need.calls true 221  _ A36.out).mono ?_); rintro e w' ⟨rfl, ⟨nd, rfl⟩⟩; refine ⟨_, rfl, ?_⟩; (try (rw [drewN_self w53]; generalize hq_ : World.drewN w53 _ = w53; have n0_ : Aside0 (Kd.R Kd.bool 4 w53 w.heap.size (fun _ => True) v241 x4_1) := ⟨by rw [← hq_]; exact (rx HO_4.out)⟩; have n1_ : Aside0 (w53.heap[gb236]? = some (.cells #[.int .i64 a0_0, .slice A0_1 l0_1.length c0_1] 24 (0, 0))) := ⟨by rw [← hq_]; exact (bx BK236.out)⟩; have n2_ : Aside0 (w53.heap[gb237]? = some (.cells #[.slice (some ad243) l1_0.length c1_0, .slice A1_1 l1_1.length c1_1] 72 (0, 0))) := ⟨by rw [← hq_]; exact (bx BK237.out)⟩; have n3_ : Aside0 (w53.heap[gb238]? = some (.cells #[.int .i64 a2_0, .int .i64 a2_1] 74 (0, 0))) := ⟨by rw [← hq_]; exact (bx BK238.out)⟩; have n4_ : Aside0 (w53.heap[gr]? = some (.cells #[.int .i64 0, .int .i64 0] 74 (0, 0))) := ⟨by rw [← hq_]; exact (bx BK998.out)⟩; have n5_ : Aside0 (w53.heap[gbx]? = some (.cells #[.int .i64 0] 30 (0, 0))) := ⟨by rw [← hq_]; exact (bx BK999.out)⟩; have n6_ : Aside0 (Below w.heap.size w w53) := ⟨by rw [← hq_]; exact lb⟩; clear HO_4 BK236 BK237 BK238 BK998 BK999 HB hq_; have HO_4 := n0_; have BK236 := n1_; have BK237 := n2_; have BK238 := n3_; have BK998 := n4_; have BK999 := n5_; have HB := n6_; clear n0_ n1_ n2_ n3_ n4_ n5_ n6_)); have hcz58_0 : w53.cell? ⟨gb236, 0, none⟩ = some (.int .i64 a0_0) := (blk_cell BK236.out 0).trans rfl; have hcz58_1 : w53.cell? ⟨gb236, 1, none⟩ = some (.slice A0_1 l0_1.length c0_1) := (blk_cell BK236.out 1).trans rfl; have hfz58_0 := blk_frozen BK236.out 0; have hfz58_1 := blk_frozen BK236.out 1; obtain ⟨p245, q245, ad245, e245, hx245_0, hx245_1, hx245_2, hx245_3⟩ := wq (at_T98 HR0_1.out (rd l1_0 x32_1)); cases e245; replace hx245_0 := hbc HB hx245_0; replace hx245_1 := hbc HB hx245_1; replace hx245_2 := hbc HB hx245_2; replace hx245_3 := hbc HB hx245_3; obtain ⟨p246, q246, ad246, e246, hx246_0, hx246_1, hx246_2, hx246_3⟩ := wq (at_T98 HR0_1.out (rd l1_0 (ji29))); obtain rfl : ad245 = ad246 := (by injection e246); replace hx246_0 := hbc HB hx246_0; replace hx246_1 := hbc HB hx246_1; replace hx246_2 := hbc HB hx246_2; replace hx246_3 := hbc HB hx246_3; obtain ⟨Ao59, co59, eo59⟩ := Kd.R_slice HO_4.out; subst eo59; obtain ⟨p247, q247, ad247, e247, hx247_0⟩ := wq (Kd.at_bool (Kd.R_reads' HO_4.out).2.2 ((rd_T98 l0_1 (rd l1_0 x32_1)).f1)); (try rw [← Nbq42.out] at hx247_0); cases e247) | ((with_reducible refine gate_callee (f := 51) rfl ?_); refine gl 89 Try.func51 #[.bool true, .int .i64 221] ?_; (with_reducible refine (proof_need.calls true 221  _ A51.out).mono ?_); rintro e w' ⟨rfl, ⟨nd, rfl⟩⟩; refine ⟨_, rfl, ?_⟩; (try (rw [drewN_self w53]; generalize hq_ : World.drewN w53 _ = w53; have n0_ : Aside0 (Kd.R Kd.bool 4 w53 w.heap.size (fun _ => True) (.slice (some ad247) x4_1.length co59) x4_1) := ⟨by rw [← hq_]; exact (rx HO_4.out)⟩; have n1_ : Aside0 (w53.heap[gb236]? = some (.cells #[.int .i64 a0_0, .slice (some ad245) l0_1.length c0_1] 24 (0, 0))) := ⟨by rw [← hq_]; exact (bx BK236.out)⟩; have n2_ : Aside0 (w53.heap[gb237]? = some (.cells #[.slice (some ad243) l1_0.length c1_0, .slice A1_1 l1_1.length c1_1] 72 (0, 0))) := ⟨by rw [← hq_]; exact (bx BK237.out)⟩; have n3_ : Aside0 (w53.heap[gb238]? = some (.cells #[.int .i64 a2_0, .int .i64 a2_1] 74 (0, 0))) := ⟨by rw [← hq_]; exact (bx BK238.out)⟩; have n4_ : Aside0 (w53.heap[gr]? = some (.cells #[.int .i64 0, .int .i64 0] 74 (0, 0))) := ⟨by rw [← hq_]; exact (bx BK998.out)⟩; have n5_ : Aside0 (w53.heap[gbx]? = some (.cells #[.int .i64 0] 30 (0, 0))) := ⟨by rw [← hq_]; exact (bx BK999.out)⟩; have n6_ : Aside0 (Below w.heap.size w w53) := ⟨by rw [← hq_]; exact lb⟩; clear HO_4 BK236 BK237 BK238 BK998 BK999 HB hq_; have HO_4 := n0_; have BK236 := n1_; have BK237 := n2_; have BK238 := n3_; have BK998 := n4_; have BK999 := n5_; have HB := n6_; clear n0_ n1_ n2_ n3_ n4_ n5_ n6_)); have hcz58_0 : w53.cell? ⟨gb236, 0, none⟩ = some (.int .i64 a0_0) := (blk_cell BK236.out 0).trans rfl; have hcz58_1 : w53.cell? ⟨gb236, 1, none⟩ = some (.slice (some ad245) l0_1.length c0_1) := (blk_cell BK236.out 1).trans rfl; have hfz58_0 := blk_frozen BK236.out 0; have hfz58_1 := blk_frozen BK236.out 1; have p52 : 0 ≤ (((rd_T98 l0_1 (rd l1_0 x32_1)).f1) : Int) := oda; have q52 : (((rd_T98 l0_1 (rd l1_0 x32_1)).f1) : Int) < ((x4_1.length : Int) : Int) := oda; obtain ⟨go52, co52, eo52, gb52, gl52, cl52, HG52⟩ := Kd.R_form HO_4.out (by omega); (first | cases eo52 | (injection eo52 with ea_ en_ ec_; (first | subst ea_ | (injection ea_ with ea_; subst ea_)); subst ec_; clear en_)); have GB52 := ak gb52; have GG52 := ak HG52; clear gb52 gl52 HG52; (first | simp only [add_plain] at hx247_0 | skip); obtain ⟨hx52_0, hf52_0⟩ := Kd.R_celln false HO_4.out (((rd_T98 l0_1 (rd l1_0 x32_1)).f1) : Int) p52 q52; replace p52 := eq_true p52; replace q52 := eq_true q52; obtain ⟨hy60_, hz60_⟩ := Kd.R_celln false HO_4.out (((rd_T98 l0_1 (rd l1_0 x32_1)).f1) : Int) (oda) (oda); have HP60 := Kd.R_putg HO_4.out (((rd_T98 l0_1 (rd l1_0 x32_1)).f1) : Int) true) | ((with_reducible refine gate_store (t := 4) (p := 92) rfl ?_); refine store_event (t := 4) (p := 92) (v := ?vo_w61) (w1 := (w53.setCell ⟨go52, (((rd_T98 l0_1 (rd l1_0 x32_1)).f1) : Int).toNat, none⟩ (.bool true))) ?hg ?ho ?hn ?hr ?_; (case ho => rfl); (case hg => rfl); (case hn => rfl); (case hr => first | (go_simp; done) | (go_simp; rfl)); intro w61 hw; have hg : w53.grownBy w61 (some go52) := (by rw [hw]; exact HP60.2); have hp_ : Kd.R Kd.bool 4 w61 w.heap.size (fun _ => True) (.slice (some ⟨go52, 0, none⟩) x4_1.length co59) y248 := (by rw [hw, Ny248.out]; exact HP60.1); clear HP60; have n0_ := ak (hp_); have n1_ := ak (blk_grown (bx BK236.out) hg (Kd.R_ne HO_4.out BK236.out (by decide))); have n2_ := ak (blk_grown (bx BK237.out) hg (Kd.R_ne HO_4.out BK237.out (by decide))); have n3_ := ak (blk_grown (bx BK238.out) hg (Kd.R_ne HO_4.out BK238.out (by decide))); have n4_ := ak (blk_grown (g := gbx) (o := .cells #[.int .i64 0] 30 (0, 0)) (bx BK999.out) hg (Kd.R_ne HO_4.out BK999.out (by decide))); have n5_ := ak (blk_grown (g := gr) (o := .cells #[.int .i64 0, .int .i64 0] 74 (0, 0)) (bx BK998.out) hg (Kd.R_ne HO_4.out BK998.out (by decide))); have n6_ := ak ((by rw [hw]; exact below_set (HB.out) GB52.out : Below w.heap.size w w61)); clear HO_4; clear BK236; clear BK237; clear BK238; clear BK999; clear BK998; clear HB; have HO_4 := n0_; have BK236 := n1_; have BK237 := n2_; have BK238 := n3_; have BK999 := n4_; have BK998 := n5_; have HB := n6_; clear n0_ n1_ n2_ n3_ n4_ n5_ n6_; clear hg hw hp_; have hcz62_0 : w61.cell? ⟨gb236, 0, none⟩ = some (.int .i64 a0_0) := (blk_cell BK236.out 0).trans rfl; have hcz62_1 : w61.cell? ⟨gb236, 1, none⟩ = some (.slice (some ad245) l0_1.length c0_1) := (blk_cell BK236.out 1).trans rfl; have hfz62_0 := blk_frozen BK236.out 0; have hfz62_1 := blk_frozen BK236.out 1; obtain ⟨p249, q249, ad249, e249, hx249_0, hx249_1, hx249_2, hx249_3⟩ := wq (at_T98 HR0_1.out (rd l1_0 x32_1)); obtain rfl : ad245 = ad249 := (by injection e249); replace hx249_0 := hbc HB hx249_0; replace hx249_1 := hbc HB hx249_1; replace hx249_2 := hbc HB hx249_2; replace hx249_3 := hbc HB hx249_3))
 go_roundg k1
 case measure => have := HK1.out; omega
 case rel => exact ⟨(y248), (wrap64 (x5_1 + ((rd_T98 l0_1 (rd l1_0 x32_1)).f3))), (wrap64 (x32_1 + 1)), sr, sr, H', ⟨by have := HK1.out; omega⟩, ⟨rx HO_4.out⟩, xb BK236, xb BK237, xb BK238, xb BK999, xb BK998, ⟨lb⟩⟩
end Go.Proofs.Ytkdoihcjhccliaa.Q
