-- PRINTED by print.py (a twelfth state) out of the translation. Not trusted: Lean checks it.
import Derived.Test.YtkdoihcjhccliaaQ0
import Derived.Test.YtkdoihcjhccliaaQ3
import Derived.Test.YtkdoihcjhccliaaQ5
namespace Go.Proofs.Ytkdoihcjhccliaa.Q
open Go.RowKit Go.Proofs.YtkdoihcjhccliaaW.PrintWords Go.Proofs.YtkdoihcjhccliaaW.PrintLast Go.Proofs.YtkdoihcjhccliaaW.PrintMore
attribute [local go_sem] max2_int min2_int max_two min_two max_three min_three max_four min_four   -- for this text's walks alone
set_option linter.unusedVariables false
set_option linter.unusedSimpArgs false

/-! ### proof_Acyclic_1: function 78 -/
mutual
def proof_Acyclic_1.l0 : Nat → List Int → List Int → Int → Int → Int → List (S98) → Option (Int)
  | 0, _, _, _, _, _, _ => none
  | k + 1, x2, x18, x19, x20, x440000, x440001 => if x20 < x19 then (if 0 ≤ x20 then (if x20 < (x18.length : Int) then (if (rd x18 x20) ≥ 0 then (if (rd x18 x20) < x440000 then (if 0 ≤ (rd x18 x20) then (if (rd x18 x20) < (x2.length : Int) then (if (rd x2 (rd x18 x20)) = 0 then (proof_Acyclic_1.l0 k (x2.set ((rd x18 x20) : Int).toNat (wrap64 (x20 + 1))) x18 x19 (wrap64 (x20 + 1)) x440000 x440001) else (some 221)) else (none)) else (none)) else (some 221)) else (some 221)) else (none)) else (none)) else (proof_Acyclic_1.l1 k x2 x440001 (x440001.length : Int) 0)
def proof_Acyclic_1.l1 : Nat → List Int → List (S98) → Int → Int → Option (Int)
  | 0, _, _, _, _ => none
  | k + 1, x2, x48, x49, x50 => if x50 < x49 then (if 0 ≤ x50 then (if x50 < (x48.length : Int) then (if 0 ≤ ((rd_T98 x48 x50).f0) then (if ((rd_T98 x48 x50).f0) < (x2.length : Int) then (if 0 ≤ ((rd_T98 x48 x50).f1) then (if ((rd_T98 x48 x50).f1) < (x2.length : Int) then (if (rd x2 ((rd_T98 x48 x50).f0)) < (rd x2 ((rd_T98 x48 x50).f1)) then (proof_Acyclic_1.l1 k x2 x48 x49 (wrap64 (x50 + 1))) else (some 221)) else (none)) else (none)) else (none)) else (none)) else (none)) else (none)) else (some 0)
end
def proof_Acyclic_1.f (k : Nat) (a0_0 : Int) (l0_1 : List (S98)) (l1 : List Int) : Option (Int) := (proof_right.f k a0_0 l0_1).bind fun t441 => (if t441 = 0 then (if (l1.length : Int) = a0_0 then (if 0 ≤ a0_0 then (if (a0_0 : Int).toNat ≤ 35184372088832 then (proof_Acyclic_1.l0 k (List.replicate (a0_0 : Int).toNat 0) l1 (l1.length : Int) 0 a0_0 l0_1) else (none)) else (none)) else (some 221)) else (some t441))
def proof_Acyclic_1.T12 : Bool × List (List Nat × List Nat) := (true, [([], []), ([], []), ([1], [1]), ([0, 2], [0, 2]), ([3], [3]), ([], []), ([], []), ([6], [6]), ([5, 7], [5, 7]), ([8], [8]), ([4, 9], [4, 9]), ([10], [10])])
def proof_Acyclic_1.B12 : List Nat := [0, 0, 2, 7, 15, 0, 0, 64, 224, 480, 1023, 2047]
theorem proof_Acyclic_1.tab12 : rtab .any (opsOf Try.f78 12) = proof_Acyclic_1.T12 := by kernel_rfl
theorem proof_Acyclic_1.bits12 : waitsOk proof_Acyclic_1.T12.2 proof_Acyclic_1.B12 = true := by kernel_rfl
set_option maxHeartbeats 8000000 in
set_option maxRecDepth 100000 in
theorem proof_Acyclic_1.calls (k : Nat) (a0_0 : Int) (A0_1 : Option Addr) (c0_1 : Nat) (l0_1 : List (S98)) (A1 : Option Addr) (c1 : Nat) (l1 : List Int) (r : Int) (w wc0 : World) (gb439 gb440 gbx : Nat) (hr0_1 : Kd.C k98 w A0_1 l0_1.length l0_1) (hc0_1 : l0_1.length ≤ c0_1) (hr1 : Kd.C (Kd.int .i64) w A1 l1.length l1) (hc1 : l1.length ≤ c1) (hB : Below w.heap.size w wc0) (hb0_ : wc0.heap[gb439]? = some (.cells #[.int .i64 a0_0, .slice A0_1 l0_1.length c0_1] 24 (0, 0))) (hg0_ : w.heap.size ≤ gb439) (hb1_ : wc0.heap[gb440]? = some (.cells #[.slice A1 l1.length c1] 70 (0, 0))) (hg1_ : w.heap.size ≤ gb440) (hb2_ : wc0.heap[gbx]? = some (.cells #[.int .i64 0] 30 (0, 0))) (hg2_ : w.heap.size ≤ gbx) (hn0_1_ : gb439 ≠ gb440) (hn0_2_ : gb439 ≠ gbx) (hn1_2_ : gb440 ≠ gbx) (h : proof_Acyclic_1.f k a0_0 l0_1 l1 = some r) :
    Calls Try.prog 78 #[.pointer (some ⟨gb439, 0, none⟩), .pointer (some ⟨gb440, 0, none⟩)] wc0 fun e w' => Gave r (e = .returned (.tuple #[])) (e = gave r) ∧ w'.heap[gbx]? = some (.cells #[.int .i64 0] 30 (0, 0)) ∧ Below w.heap.size w w' := by
 have hu24 := Try.underlying24
 have hu98 := Try.underlying98
 have HR0_1 := ak hr0_1
 have HC0_1 := ak hc0_1
 clear hr0_1 hc0_1
 have HR1 := ak hr1
 have HC1 := ak hc1
 clear hr1 hc1
 have HB := ak hB
 clear hB
 have BK439 := ak hb0_
 have GW439 := ak hg0_
 have GE439 := ak hg0_
 have BK440 := ak hb1_
 have GW440 := ak hg1_
 have GE440 := ak hg1_
 have BK999 := ak hb2_
 have GW999 := ak hg2_
 have GE999 := ak hg2_
 have NB439_440 := ak hn0_1_
 have NB440_439 := ak hn0_1_.symm
 have NB439_999 := ak hn0_2_
 have NB999_439 := ak hn0_2_.symm
 have NB440_999 := ak hn1_2_
 have NB999_440 := ak hn1_2_.symm
 clear hb0_ hg0_ hb1_ hg1_ hb2_ hg2_ hn0_1_ hn0_2_ hn1_2_
 have H : ((proof_right.f k a0_0 l0_1).bind fun t441 => (if t441 = 0 then (if (l1.length : Int) = a0_0 then (if 0 ≤ a0_0 then (if (a0_0 : Int).toNat ≤ 35184372088832 then (proof_Acyclic_1.l0 k (List.replicate (a0_0 : Int).toNat 0) l1 (l1.length : Int) 0 a0_0 l0_1) else (none)) else (none)) else (some 221)) else (some t441))) = some r := h
 clear h
 replace H := Option.bind_eq_some_iff.mp H
 obtain ⟨t441, A30, H⟩ := H
 replace H : (if t441 = 0 then (if (l1.length : Int) = a0_0 then (if 0 ≤ a0_0 then (if (a0_0 : Int).toNat ≤ 35184372088832 then (proof_Acyclic_1.l0 k (List.replicate (a0_0 : Int).toNat 0) l1 (l1.length : Int) 0 a0_0 l0_1) else (none)) else (none)) else (some 221)) else (some t441)) = some r := H
 by_cases c4 : t441 = 0
 rotate_left
 ·
  rw [if_neg c4] at H
  have A3 := ak A30
  clear A30
  obtain rfl := Option.some.inj H
  have hnb77 := NB439_440.out
  have hnc77 := NB440_439.out
  have hnb78 := NB439_999.out
  have hnc78 := NB999_439.out
  have hcz79_0 : wc0.cell? ⟨gb439, 0, none⟩ = some (.int .i64 a0_0) := (blk_cell BK439.out 0).trans rfl
  have hcz79_1 : wc0.cell? ⟨gb439, 1, none⟩ = some (.slice A0_1 l0_1.length c0_1) := (blk_cell BK439.out 1).trans rfl
  have hfz79_0 := blk_frozen BK439.out 0
  have hfz79_1 := blk_frozen BK439.out 1
  go_enter Try.func78, Try.ntmps78
  go_wp2_with (first | ((with_reducible refine gate_callee (f := 50) rfl ?_); refine pl 8 Try.func50 #[.agg #[.int .i64 a0_0, .slice A0_1 l0_1.length c0_1]] ?_; (with_reducible refine (proof_right.bad k a0_0 _ _ l0_1 t441 _ (Kd.C_below HR0_1.out lb) HC0_1.out A3.out c4).mono ?_); rintro e w80 ⟨rfl, hb⟩; refine ⟨_, rfl, ?_⟩; (repeat (first | refine panic_then ?_ | refine panic_block ?_)); exact panic_body rfl (⟨Gave.no c4 rfl, blk_below (bx BK999.out) hb, below_step lb hb⟩)))

 subst c4
 have H1 : (if (l1.length : Int) = a0_0 then (if 0 ≤ a0_0 then (if (a0_0 : Int).toNat ≤ 35184372088832 then (proof_Acyclic_1.l0 k (List.replicate (a0_0 : Int).toNat 0) l1 (l1.length : Int) 0 a0_0 l0_1) else (none)) else (none)) else (some 221)) = some r := by rw [if_pos rfl] at H; exact H
 clear H
 have H := H1
 clear H1
 have A3 := ak A30
 clear A30
 by_cases c5 : (l1.length : Int) = a0_0
 rotate_left
 ·
  rw [if_neg c5] at H
  have c5b0 := bn c5
  have c5b1 : ((l1.length : Int) != a0_0) = true := bne_iff_ne.mpr c5
  obtain rfl := Option.some.inj H
  have hnb70 := NB439_440.out
  have hnc70 := NB440_439.out
  have hnb71 := NB439_999.out
  have hnc71 := NB999_439.out
  have hcz72_0 : wc0.cell? ⟨gb439, 0, none⟩ = some (.int .i64 a0_0) := (blk_cell BK439.out 0).trans rfl
  have hcz72_1 : wc0.cell? ⟨gb439, 1, none⟩ = some (.slice A0_1 l0_1.length c0_1) := (blk_cell BK439.out 1).trans rfl
  have hfz72_0 := blk_frozen BK439.out 0
  have hfz72_1 := blk_frozen BK439.out 1
  go_enter Try.func78, Try.ntmps78
  go_wp2_with (first | ((with_reducible refine gate_callee (f := 50) rfl ?_); refine gl 8 Try.func50 #[.agg #[.int .i64 a0_0, .slice A0_1 l0_1.length c0_1]] ?_; (with_reducible refine (proof_right.ok k a0_0 _ _ l0_1  _ (Kd.C_below HR0_1.out lb) HC0_1.out A3.out).mono ?_); rintro e w73 ⟨rfl, hb⟩; refine ⟨_, rfl, ?_⟩; have n0_ := ak (bo BK439 hb); have n1_ := ak (bo BK440 hb); have n2_ := ak (blk_below (g := gbx) (o := .cells #[.int .i64 0] 30 (0, 0)) (bx BK999.out) hb); have n3_ := ak (bl hb); clear BK439; clear BK440; clear BK999; clear HB; have BK439 := n0_; have BK440 := n1_; have BK999 := n2_; have HB := n3_; clear n0_ n1_ n2_ n3_; clear hb; have ⟨_, _⟩ := nn NB440_999; have hcz75_0 : w73.cell? ⟨gb440, 0, none⟩ = some (.slice A1 l1.length c1) := (blk_cell BK440.out 0).trans rfl; have hfz75_0 := blk_frozen BK440.out 0; have hcz76_0 : w73.cell? ⟨gb439, 0, none⟩ = some (.int .i64 a0_0) := (blk_cell BK439.out 0).trans rfl; have hcz76_1 : w73.cell? ⟨gb439, 1, none⟩ = some (.slice A0_1 l0_1.length c0_1) := (blk_cell BK439.out 1).trans rfl; have hfz76_0 := blk_frozen BK439.out 0; have hfz76_1 := blk_frozen BK439.out 1) | ((with_reducible refine gate_callee (f := 51) rfl ?_); refine pl 14 Try.func51 #[.bool false, .int .i64 221] ?_; refine (proof_need.bad 221 _).mono ?_; rintro e w' ⟨rfl, rfl⟩; refine ⟨_, rfl, ?_⟩; (repeat (first | refine panic_then ?_ | refine panic_block ?_)); exact panic_body rfl (⟨Gave.no da rfl, (bx BK999.out), lb⟩)))
 rw [if_pos c5] at H
 have c5b0 := be c5
 have c5b1 : ((l1.length : Int) != a0_0) = false := bne_eq_false_iff_eq.mpr c5
 clear c5
 have A6 := ak (show proof_need.f true 221 = some () from rfl)
 by_cases c7 : 0 ≤ a0_0
 rotate_left
 ·
  rw [if_neg c7] at H
  exact absurd H (by simp)
 rw [if_pos c7] at H
 have c7b0 := eq_true c7
 have c7b1 : decide (0 ≤ a0_0) = true := decide_eq_true c7
 clear c7
 by_cases c8 : (a0_0 : Int).toNat ≤ 35184372088832
 rotate_left
 ·
  rw [if_neg c8] at H
  exact absurd H (by simp)
 rw [if_pos c8] at H
 have c8b0 := eq_true c8
 have c8b1 : decide ((a0_0 : Int).toNat ≤ 35184372088832) = true := decide_eq_true c8
 clear c8
 obtain ⟨y442, hy442⟩ : ∃ y_ : List Int, y_ = (List.replicate (a0_0 : Int).toNat 0) := ⟨_, rfl⟩
 replace H : (proof_Acyclic_1.l0 k y442 l1 (l1.length : Int) 0 a0_0 l0_1) = some r := by first | (rw [hy442]; exact H) | exact H
 have Ny442 := ak hy442
 clear hy442
 have H' := ak H
 clear H
 have hnb9 := NB439_440.out
 have hnc9 := NB440_439.out
 have hnb10 := NB439_999.out
 have hnc10 := NB999_439.out
 have hcz11_0 : wc0.cell? ⟨gb439, 0, none⟩ = some (.int .i64 a0_0) := (blk_cell BK439.out 0).trans rfl
 have hcz11_1 : wc0.cell? ⟨gb439, 1, none⟩ = some (.slice A0_1 l0_1.length c0_1) := (blk_cell BK439.out 1).trans rfl
 have hfz11_0 := blk_frozen BK439.out 0
 have hfz11_1 := blk_frozen BK439.out 1
 go_enter Try.func78, Try.ntmps78
 go_wp2_with (first | ((with_reducible refine gate_callee (f := 50) rfl ?_); refine gl 8 Try.func50 #[.agg #[.int .i64 a0_0, .slice A0_1 l0_1.length c0_1]] ?_; (with_reducible refine (proof_right.ok k a0_0 _ _ l0_1  _ (Kd.C_below HR0_1.out lb) HC0_1.out A3.out).mono ?_); rintro e w12 ⟨rfl, hb⟩; refine ⟨_, rfl, ?_⟩; have n0_ := ak (bo BK439 hb); have n1_ := ak (bo BK440 hb); have n2_ := ak (blk_below (g := gbx) (o := .cells #[.int .i64 0] 30 (0, 0)) (bx BK999.out) hb); have n3_ := ak (bl hb); clear BK439; clear BK440; clear BK999; clear HB; have BK439 := n0_; have BK440 := n1_; have BK999 := n2_; have HB := n3_; clear n0_ n1_ n2_ n3_; clear hb; have ⟨_, _⟩ := nn NB440_999; have hcz14_0 : w12.cell? ⟨gb440, 0, none⟩ = some (.slice A1 l1.length c1) := (blk_cell BK440.out 0).trans rfl; have hfz14_0 := blk_frozen BK440.out 0; have hcz15_0 : w12.cell? ⟨gb439, 0, none⟩ = some (.int .i64 a0_0) := (blk_cell BK439.out 0).trans rfl; have hcz15_1 : w12.cell? ⟨gb439, 1, none⟩ = some (.slice A0_1 l0_1.length c0_1) := (blk_cell BK439.out 1).trans rfl; have hfz15_0 := blk_frozen BK439.out 0; have hfz15_1 := blk_frozen BK439.out 1) | ((with_reducible refine gate_callee (f := 51) rfl ?_); refine gl 14 Try.func51 #[.bool true, .int .i64 221] ?_; (with_reducible refine (proof_need.calls true 221  _ A6.out).mono ?_); rintro e w' ⟨rfl, ⟨nd, rfl⟩⟩; refine ⟨_, rfl, ?_⟩) | ((with_reducible refine gate_dst (N := 17) rfl ?_); refine Kd.R_make (Kd.int .i64) _ 3 rfl (N := 17) rfl 70 _ _ rfl a0_0 rfl rfl Try.underlying70 (.int .i64 0) 8 info3 rfl (by decide) (by omega) 0 (ok := fun _ => True) (okp := fun _ => True) rfl (fun _ hk => hk) trivial (oda) (Nat.le_trans (Nat.mul_le_mul_right _ (oda : a0_0.toNat ≤ 35184372088832)) (by omega)) (Below.refl _ _) (Nat.le_refl _) ?_; intro v443 w16 ho17 hb hg_ hnew_; clear hg_ hnew_; (first | rw [← Ny442.out] at ho17 | (simp only [Int.reduceToNat] at ho17; rw [← Ny442.out] at ho17)); have n0_ := ak (Kd.R_lower ho17 (below_size lb)); have n1_ := ak (bo BK439 hb); have n2_ := ak (bo BK440 hb); have n3_ := ak (blk_below (g := gbx) (o := .cells #[.int .i64 0] 30 (0, 0)) (bx BK999.out) hb); have n4_ := ak (bl hb); clear BK439; clear BK440; clear BK999; clear HB; have HO444 := n0_; have BK439 := n1_; have BK440 := n2_; have BK999 := n3_; have HB := n4_; clear n0_ n1_ n2_ n3_ n4_; clear hb ho17; have hcz18_0 : w16.cell? ⟨gb440, 0, none⟩ = some (.slice A1 l1.length c1) := (blk_cell BK440.out 0).trans rfl; have hfz18_0 := blk_frozen BK440.out 0))
 go_loopg [20] k (fun kq v20 w' => ∃ (x2_1 : List Int) (x20_1 : Int), v20 = .int .i64 x20_1 ∧ Aside0 (proof_Acyclic_1.l0 kq x2_1 l1 (l1.length : Int) x20_1 a0_0 l0_1 = some r) ∧ Aside0 (kq ≤ k) ∧ Aside0 (Kd.R (Kd.int .i64) 3 w' w.heap.size (fun _ => True) v443 x2_1) ∧ Aside0 (w'.heap[gb439]? = some (.cells #[.int .i64 a0_0, (.slice A0_1 l0_1.length c0_1)] 24 (0, 0))) ∧ Aside0 (w'.heap[gb440]? = some (.cells #[(.slice A1 l1.length c1)] 70 (0, 0))) ∧ Aside0 (w'.heap[gbx]? = some (.cells #[.int .i64 0] 30 (0, 0))) ∧ Aside0 (Below w.heap.size w w'))
 case atStart => exact ⟨(y442), (0), sr, H', ⟨Nat.le_refl _⟩, ⟨rx HO444.out⟩, xb BK439, xb BK440, xb BK999, ⟨lb⟩⟩
 clear H'
 try clear c1; try clear p2; try clear c4; try clear c5; try clear c5b0; try clear c5b1; try clear c7; try clear c7b0; try clear c7b1; try clear c8; try clear c8b0; try clear c8b1; try clear c9; try clear c10; try clear c13; try clear hcz11_0; try clear hcz11_1; try clear hcz14_0; try clear hcz15_0; try clear hcz15_1; try clear hcz18_0; try clear hfz11_0; try clear hfz11_1; try clear hfz14_0; try clear hfz15_0; try clear hfz15_1; try clear hfz18_0
 obtain ⟨x2_1, x20_1, rfl, HA, HK1, HO_2, BK439, BK440, BK999, HB⟩ := hrel
 cases gk with
 | zero => exact absurd HA.out (by simp [proof_Acyclic_1.l0])
 | succ k1 => ?_
 have H := HA.out
 clear HA
 simp only [proof_Acyclic_1.l0] at H
 by_cases c19 : x20_1 < (l1.length : Int)
 ·
  rw [if_pos c19] at H
  have c19b0 := decide_eq_true c19
  clear c19
  by_cases c20 : 0 ≤ x20_1
  rotate_left
  ·
   rw [if_neg c20] at H
   exact absurd H (by simp)
  rw [if_pos c20] at H
  have c20b0 := decide_eq_true c20
  clear c20
  by_cases c21 : x20_1 < (l1.length : Int)
  rotate_left
  ·
   rw [if_neg c21] at H
   exact absurd H (by simp)
  rw [if_pos c21] at H
  have c21b0 := decide_eq_true c21
  clear c21
  by_cases c22 : (rd l1 x20_1) ≥ 0
  rotate_left
  ·
   rw [if_neg c22] at H
   have c22b0 := decide_eq_false c22
   clear c22
   obtain rfl := Option.some.inj H
   have p445 : 0 ≤ (x20_1 : Int) := oda
   have q445 : x20_1 < (l1.length : Int) := oda
   obtain ⟨ad445, e445, hx445_0⟩ := Kd.at_int HR1.out x20_1 p445 q445
   cases e445
   (try replace hx445_0 := hbc HB hx445_0)
   replace p445 := eq_true p445
   replace q445 := eq_true q445
   go_wp2_with (first | ((with_reducible refine gate_callee (f := 51) rfl ?_); refine pl 40 Try.func51 #[.bool false, .int .i64 221] ?_; refine (proof_need.bad 221 _).mono ?_; rintro e w' ⟨rfl, rfl⟩; refine ⟨_, rfl, ?_⟩; (repeat (first | refine panic_then ?_ | refine panic_block ?_)); exact panic_body rfl (⟨Gave.no da rfl, (bx BK999.out), lb⟩)))
  rw [if_pos c22] at H
  have c22b0 := decide_eq_true c22
  clear c22
  by_cases c23 : (rd l1 x20_1) < a0_0
  rotate_left
  ·
   rw [if_neg c23] at H
   have c23b0 := decide_eq_false c23
   clear c23
   obtain rfl := Option.some.inj H
   have p445 : 0 ≤ (x20_1 : Int) := oda
   have q445 : x20_1 < (l1.length : Int) := oda
   obtain ⟨ad445, e445, hx445_0⟩ := Kd.at_int HR1.out x20_1 p445 q445
   cases e445
   (try replace hx445_0 := hbc HB hx445_0)
   replace p445 := eq_true p445
   replace q445 := eq_true q445
   have hnb39 := NB439_440.out
   have hnc39 := NB440_439.out
   have hnb40 := NB439_999.out
   have hnc40 := NB999_439.out
   have hcz41_0 : wr.cell? ⟨gb439, 0, none⟩ = some (.int .i64 a0_0) := (blk_cell BK439.out 0).trans rfl
   have hcz41_1 : wr.cell? ⟨gb439, 1, none⟩ = some (.slice A0_1 l0_1.length c0_1) := (blk_cell BK439.out 1).trans rfl
   have hfz41_0 := blk_frozen BK439.out 0
   have hfz41_1 := blk_frozen BK439.out 1
   go_wp2_with (first | ((with_reducible refine gate_callee (f := 51) rfl ?_); refine pl 40 Try.func51 #[.bool false, .int .i64 221] ?_; refine (proof_need.bad 221 _).mono ?_; rintro e w' ⟨rfl, rfl⟩; refine ⟨_, rfl, ?_⟩; (repeat (first | refine panic_then ?_ | refine panic_block ?_)); exact panic_body rfl (⟨Gave.no da rfl, (bx BK999.out), lb⟩)))
  rw [if_pos c23] at H
  have c23b0 := decide_eq_true c23
  clear c23
  by_cases c24 : 0 ≤ (rd l1 x20_1)
  rotate_left
  ·
   rw [if_neg c24] at H
   exact absurd H (by simp)
  rw [if_pos c24] at H
  have c24b0 := decide_eq_true c24
  clear c24
  by_cases c25 : (rd l1 x20_1) < (x2_1.length : Int)
  rotate_left
  ·
   rw [if_neg c25] at H
   exact absurd H (by simp)
  rw [if_pos c25] at H
  have c25b0 := decide_eq_true c25
  clear c25
  by_cases c26 : (rd x2_1 (rd l1 x20_1)) = 0
  rotate_left
  ·
   rw [if_neg c26] at H
   have c26b0 := bn c26
   have c26b1 : ((rd x2_1 (rd l1 x20_1)) != 0) = true := bne_iff_ne.mpr c26
   obtain rfl := Option.some.inj H
   have p445 : 0 ≤ (x20_1 : Int) := oda
   have q445 : x20_1 < (l1.length : Int) := oda
   obtain ⟨ad445, e445, hx445_0⟩ := Kd.at_int HR1.out x20_1 p445 q445
   cases e445
   (try replace hx445_0 := hbc HB hx445_0)
   replace p445 := eq_true p445
   replace q445 := eq_true q445
   have hnb35 := NB439_440.out
   have hnc35 := NB440_439.out
   have hnb36 := NB439_999.out
   have hnc36 := NB999_439.out
   have hcz37_0 : wr.cell? ⟨gb439, 0, none⟩ = some (.int .i64 a0_0) := (blk_cell BK439.out 0).trans rfl
   have hcz37_1 : wr.cell? ⟨gb439, 1, none⟩ = some (.slice A0_1 l0_1.length c0_1) := (blk_cell BK439.out 1).trans rfl
   have hfz37_0 := blk_frozen BK439.out 0
   have hfz37_1 := blk_frozen BK439.out 1
   obtain ⟨Ao38, co38, eo38⟩ := Kd.R_slice HO_2.out
   subst eo38
   have p446 : 0 ≤ ((rd l1 x20_1) : Int) := oda
   have q446 : (rd l1 x20_1) < (x2_1.length : Int) := oda
   obtain ⟨ad446, e446, hx446_0⟩ := Kd.at_int (Kd.R_reads' HO_2.out).2.2 (rd l1 x20_1) p446 q446
   cases e446
   replace p446 := eq_true p446
   replace q446 := eq_true q446
   go_wp2_with (first | ((with_reducible refine gate_callee (f := 51) rfl ?_); refine pl 40 Try.func51 #[.bool false, .int .i64 221] ?_; refine (proof_need.bad 221 _).mono ?_; rintro e w' ⟨rfl, rfl⟩; refine ⟨_, rfl, ?_⟩; (repeat (first | refine panic_then ?_ | refine panic_block ?_)); exact panic_body rfl (⟨Gave.no da rfl, (bx BK999.out), lb⟩)))
  rw [if_pos c26] at H
  have c26b0 := be c26
  have c26b1 : ((rd x2_1 (rd l1 x20_1)) != 0) = false := bne_eq_false_iff_eq.mpr c26
  clear c26
  have A27 := ak (show proof_need.f true 221 = some () from rfl)
  obtain ⟨y447, hy447⟩ : ∃ y_ : List Int, y_ = (x2_1.set ((rd l1 x20_1) : Int).toNat (wrap64 (x20_1 + 1))) := ⟨_, rfl⟩
  replace H : (proof_Acyclic_1.l0 k1 y447 l1 (l1.length : Int) (wrap64 (x20_1 + 1)) a0_0 l0_1) = some r := by first | (rw [hy447]; exact H) | exact H
  have Ny447 := ak hy447
  clear hy447
  have H' := ak H
  clear H
  have p445 : 0 ≤ (x20_1 : Int) := oda
  have q445 : x20_1 < (l1.length : Int) := oda
  obtain ⟨ad445, e445, hx445_0⟩ := Kd.at_int HR1.out x20_1 p445 q445
  cases e445
  (try replace hx445_0 := hbc HB hx445_0)
  replace p445 := eq_true p445
  replace q445 := eq_true q445
  have hnb29 := NB439_440.out
  have hnc29 := NB440_439.out
  have hnb30 := NB439_999.out
  have hnc30 := NB999_439.out
  have hcz31_0 : wr.cell? ⟨gb439, 0, none⟩ = some (.int .i64 a0_0) := (blk_cell BK439.out 0).trans rfl
  have hcz31_1 : wr.cell? ⟨gb439, 1, none⟩ = some (.slice A0_1 l0_1.length c0_1) := (blk_cell BK439.out 1).trans rfl
  have hfz31_0 := blk_frozen BK439.out 0
  have hfz31_1 := blk_frozen BK439.out 1
  obtain ⟨Ao32, co32, eo32⟩ := Kd.R_slice HO_2.out
  subst eo32
  have p446 : 0 ≤ ((rd l1 x20_1) : Int) := oda
  have q446 : (rd l1 x20_1) < (x2_1.length : Int) := oda
  obtain ⟨ad446, e446, hx446_0⟩ := Kd.at_int (Kd.R_reads' HO_2.out).2.2 (rd l1 x20_1) p446 q446
  cases e446
  replace p446 := eq_true p446
  replace q446 := eq_true q446
  go_wp2_with (first | ((with_reducible refine gate_callee (f := 51) rfl ?_); refine gl 40 Try.func51 #[.bool true, .int .i64 221] ?_; (with_reducible refine (proof_need.calls true 221  _ A27.out).mono ?_); rintro e w' ⟨rfl, ⟨nd, rfl⟩⟩; refine ⟨_, rfl, ?_⟩; (try (rw [drewN_self wr]; generalize hq_ : World.drewN wr _ = wr; have n0_ : Aside0 (Kd.R (Kd.int .i64) 3 wr w.heap.size (fun _ => True) (.slice (some ad446) x2_1.length co32) x2_1) := ⟨by rw [← hq_]; exact (rx HO_2.out)⟩; have n1_ : Aside0 (wr.heap[gb439]? = some (.cells #[.int .i64 a0_0, .slice A0_1 l0_1.length c0_1] 24 (0, 0))) := ⟨by rw [← hq_]; exact (bx BK439.out)⟩; have n2_ : Aside0 (wr.heap[gb440]? = some (.cells #[.slice (some ad445) l1.length c1] 70 (0, 0))) := ⟨by rw [← hq_]; exact (bx BK440.out)⟩; have n3_ : Aside0 (wr.heap[gbx]? = some (.cells #[.int .i64 0] 30 (0, 0))) := ⟨by rw [← hq_]; exact (bx BK999.out)⟩; have n4_ : Aside0 (Below w.heap.size w wr) := ⟨by rw [← hq_]; exact lb⟩; clear HO_2 BK439 BK440 BK999 HB hq_; have HO_2 := n0_; have BK439 := n1_; have BK440 := n2_; have BK999 := n3_; have HB := n4_; clear n0_ n1_ n2_ n3_ n4_)); have p28 : 0 ≤ ((rd l1 x20_1) : Int) := oda; have q28 : ((rd l1 x20_1) : Int) < ((x2_1.length : Int) : Int) := oda; obtain ⟨go28, co28, eo28, gb28, gl28, cl28, HG28⟩ := Kd.R_form HO_2.out (by omega); (first | cases eo28 | (injection eo28 with ea_ en_ ec_; (first | subst ea_ | (injection ea_ with ea_; subst ea_)); subst ec_; clear en_)); have GB28 := ak gb28; have GG28 := ak HG28; clear gb28 gl28 HG28; (first | simp only [add_plain] at hx446_0 | skip); obtain ⟨hx28_0, hf28_0⟩ := Kd.R_celln 0 HO_2.out ((rd l1 x20_1) : Int) p28 q28; replace p28 := eq_true p28; replace q28 := eq_true q28; obtain ⟨hy33_, hz33_⟩ := Kd.R_celln 0 HO_2.out ((rd l1 x20_1) : Int) (oda) (oda); have HP33 := Kd.R_putg HO_2.out ((rd l1 x20_1) : Int) (wrap64 (x20_1 + 1))) | ((with_reducible refine gate_store (t := 3) (p := 45) rfl ?_); refine store_event (t := 3) (p := 45) (v := ?vo_w34) (w1 := (wr.setCell ⟨go28, ((rd l1 x20_1) : Int).toNat, none⟩ (.int .i64 (wrap64 (x20_1 + 1))))) ?hg ?ho ?hn ?hr ?_; (case ho => rfl); (case hg => rfl); (case hn => rfl); (case hr => first | (go_simp; done) | (go_simp; rfl)); intro w34 hw; have hg : wr.grownBy w34 (some go28) := (by rw [hw]; exact HP33.2); have hp_ : Kd.R (Kd.int .i64) 3 w34 w.heap.size (fun _ => True) (.slice (some ⟨go28, 0, none⟩) x2_1.length co32) y447 := (by rw [hw, Ny447.out]; exact HP33.1); clear HP33; have n0_ := ak (hp_); have n1_ := ak (blk_grown (bx BK439.out) hg (Kd.R_ne HO_2.out BK439.out (by decide))); have n2_ := ak (blk_grown (bx BK440.out) hg (Kd.R_ne HO_2.out BK440.out (by decide))); have n3_ := ak (blk_grown (g := gbx) (o := .cells #[.int .i64 0] 30 (0, 0)) (bx BK999.out) hg (Kd.R_ne HO_2.out BK999.out (by decide))); have n4_ := ak ((by rw [hw]; exact below_set (HB.out) GB28.out : Below w.heap.size w w34)); clear HO_2; clear BK439; clear BK440; clear BK999; clear HB; have HO_2 := n0_; have BK439 := n1_; have BK440 := n2_; have BK999 := n3_; have HB := n4_; clear n0_ n1_ n2_ n3_ n4_; clear hg hw hp_))
  go_roundg k1
  case measure => have := HK1.out; omega
  case rel => exact ⟨(y447), (wrap64 (x20_1 + 1)), sr, H', ⟨by have := HK1.out; omega⟩, ⟨rx HO_2.out⟩, xb BK439, xb BK440, xb BK999, ⟨lb⟩⟩
 rw [if_neg c19] at H
 have c19b0 := decide_eq_false c19
 clear c19
 have H' := ak H
 clear H
 have hnb42 := NB439_440.out
 have hnc42 := NB440_439.out
 have hnb43 := NB439_999.out
 have hnc43 := NB999_439.out
 have hcz44_0 : wr.cell? ⟨gb439, 0, none⟩ = some (.int .i64 a0_0) := (blk_cell BK439.out 0).trans rfl
 have hcz44_1 : wr.cell? ⟨gb439, 1, none⟩ = some (.slice A0_1 l0_1.length c0_1) := (blk_cell BK439.out 1).trans rfl
 have hfz44_0 := blk_frozen BK439.out 0
 have hfz44_1 := blk_frozen BK439.out 1
 go_wp2
 go_loopg [50] k1 (fun kq v50 w' => ∃ (x50_2 : Int), v50 = .int .i64 x50_2 ∧ Aside0 (proof_Acyclic_1.l1 kq x2_1 l0_1 (l0_1.length : Int) x50_2 = some r) ∧ Aside0 (kq ≤ k1) ∧ Aside0 (Kd.R (Kd.int .i64) 3 w' w.heap.size (fun _ => True) v443 x2_1) ∧ Aside0 (w'.heap[gb439]? = some (.cells #[.int .i64 a0_0, (.slice A0_1 l0_1.length c0_1)] 24 (0, 0))) ∧ Aside0 (w'.heap[gb440]? = some (.cells #[(.slice A1 l1.length c1)] 70 (0, 0))) ∧ Aside0 (w'.heap[gbx]? = some (.cells #[.int .i64 0] 30 (0, 0))) ∧ Aside0 (Below w.heap.size w w'))
 case atStart => exact ⟨(0), sr, H', ⟨Nat.le_refl _⟩, ⟨rx HO_2.out⟩, xb BK439, xb BK440, xb BK999, ⟨lb⟩⟩
 clear H'
 try clear c1; try clear c2; try clear p2; try clear q2; try clear hx2; try clear hf2; try clear c3; try clear c4; try clear p4; try clear q4; try clear hx4; try clear c5; try clear c5b0; try clear c5b1; try clear p6; try clear c7; try clear c7b0; try clear c7b1; try clear c8; try clear c8b0; try clear c8b1; try clear c9; try clear c10; try clear c13; try clear c19; try clear c19b0; try clear c20; try clear c20b0; try clear c21; try clear c21b0; try clear c22; try clear c22b0; try clear c23; try clear c23b0; try clear c24; try clear c24b0; try clear c25; try clear c25b0; try clear c26; try clear c26b0; try clear c26b1; try clear p28; try clear q28; try clear hx28; try clear hf28; try clear c29; try clear c30; try clear c35; try clear c36; try clear c39; try clear c40; try clear c42; try clear c43; try clear p44; try clear q44; try clear hx44; try clear hcz11_0; try clear hcz11_1; try clear hcz14_0; try clear hcz15_0; try clear hcz15_1; try clear hcz18_0; try clear hcz31_0; try clear hcz31_1; try clear hcz37_0; try clear hcz37_1; try clear hcz41_0; try clear hcz41_1; try clear hcz44_0; try clear hcz44_1; try clear hfz11_0; try clear hfz11_1; try clear hfz14_0; try clear hfz15_0; try clear hfz15_1; try clear hfz18_0; try clear hfz31_0; try clear hfz31_1; try clear hfz37_0; try clear hfz37_1; try clear hfz41_0; try clear hfz41_1; try clear hfz44_0; try clear hfz44_1; try clear hx28_0; try clear hx445_0; try clear hx446_0; try clear p2; try clear p28; try clear p445; try clear p446; try clear q28; try clear q445; try clear q446
 obtain ⟨x50_2, rfl, HA, HK2, HO_2, BK439, BK440, BK999, HB⟩ := hrel
 cases gk with
 | zero => exact absurd HA.out (by simp [proof_Acyclic_1.l1])
 | succ k2 => ?_
 have H := HA.out
 clear HA
 simp only [proof_Acyclic_1.l1] at H
 by_cases c45 : x50_2 < (l0_1.length : Int)
 rotate_left
 ·
  rw [if_neg c45] at H
  have c45b0 := decide_eq_false c45
  clear c45
  obtain rfl := Option.some.inj H
  go_wp2
  first | go_end0 | ((try simp only [Exit.inBlock, Exit.then]); refine bodyPost_ret (results_none rfl _ _ _) rfl ?_)
  exact ⟨Gave.ok (by first | rfl | (simp <;> rfl)), (bx BK999.out), lb⟩
 rw [if_pos c45] at H
 have c45b0 := decide_eq_true c45
 clear c45
 by_cases c46 : 0 ≤ x50_2
 rotate_left
 ·
  rw [if_neg c46] at H
  exact absurd H (by simp)
 rw [if_pos c46] at H
 have c46b0 := decide_eq_true c46
 clear c46
 by_cases c47 : x50_2 < (l0_1.length : Int)
 rotate_left
 ·
  rw [if_neg c47] at H
  exact absurd H (by simp)
 rw [if_pos c47] at H
 have c47b0 := decide_eq_true c47
 clear c47
 by_cases c48 : 0 ≤ ((rd_T98 l0_1 x50_2).f0)
 rotate_left
 ·
  rw [if_neg c48] at H
  exact absurd H (by simp)
 rw [if_pos c48] at H
 have c48b0 := decide_eq_true c48
 clear c48
 by_cases c49 : ((rd_T98 l0_1 x50_2).f0) < (x2_1.length : Int)
 rotate_left
 ·
  rw [if_neg c49] at H
  exact absurd H (by simp)
 rw [if_pos c49] at H
 have c49b0 := decide_eq_true c49
 clear c49
 by_cases c50 : 0 ≤ ((rd_T98 l0_1 x50_2).f1)
 rotate_left
 ·
  rw [if_neg c50] at H
  exact absurd H (by simp)
 rw [if_pos c50] at H
 have c50b0 := decide_eq_true c50
 clear c50
 by_cases c51 : ((rd_T98 l0_1 x50_2).f1) < (x2_1.length : Int)
 rotate_left
 ·
  rw [if_neg c51] at H
  exact absurd H (by simp)
 rw [if_pos c51] at H
 have c51b0 := decide_eq_true c51
 clear c51
 by_cases c52 : (rd x2_1 ((rd_T98 l0_1 x50_2).f0)) < (rd x2_1 ((rd_T98 l0_1 x50_2).f1))
 rotate_left
 ·
  rw [if_neg c52] at H
  have c52b0 := decide_eq_false c52
  clear c52
  obtain rfl := Option.some.inj H
  have p448 : 0 ≤ (x50_2 : Int) := oda
  have q448 : x50_2 < (l0_1.length : Int) := oda
  obtain ⟨ad448, e448, hx448_0, hx448_1, hx448_2, hx448_3⟩ := at_T98 HR0_1.out x50_2 p448 q448
  cases e448
  (try replace hx448_0 := hbc HB hx448_0)
  (try replace hx448_1 := hbc HB hx448_1)
  (try replace hx448_2 := hbc HB hx448_2)
  (try replace hx448_3 := hbc HB hx448_3)
  replace p448 := eq_true p448
  replace q448 := eq_true q448
  try go_wp2_with (first | ((with_reducible refine gate_dst (N := 6) rfl ?_); refine bxe 6 #[.int .i64 0, .int .i64 0, .int .i64 0, .int .i64 0] 98 ?_; intro gb449 hg w62 hbox hb; have n0_ := ak (ro HO_2 hb); have n1_ := ak (bo BK439 hb); have n2_ := ak (bo BK440 hb); have n3_ := ak (blk_below (g := gbx) (o := .cells #[.int .i64 0] 30 (0, 0)) (bx BK999.out) hb); have n4_ := ak (bl hb); have n5_ := ak (hbox); have n6_ := ak ((by rw [hg]; exact (below_size lb) : w.heap.size ≤ gb449)); have n7_ := ak ((by rw [hg]; exact (below_size lb) : w.heap.size ≤ gb449)); have n8_ := ak ((by rw [hg]; exact Nat.ne_of_lt (blk_lt (g := gb439) (o := .cells #[.int .i64 a0_0, .slice (some ad448) l0_1.length c0_1] 24 (0, 0)) (bx BK439.out)) : gb439 ≠ gb449)); have n9_ := ak ((by rw [hg]; exact Nat.ne_of_gt (blk_lt (g := gb439) (o := .cells #[.int .i64 a0_0, .slice (some ad448) l0_1.length c0_1] 24 (0, 0)) (bx BK439.out)) : gb449 ≠ gb439)); have n10_ := ak ((by rw [hg]; exact Nat.ne_of_lt (blk_lt (g := gb440) (o := .cells #[.slice A1 l1.length c1] 70 (0, 0)) (bx BK440.out)) : gb440 ≠ gb449)); have n11_ := ak ((by rw [hg]; exact Nat.ne_of_gt (blk_lt (g := gb440) (o := .cells #[.slice A1 l1.length c1] 70 (0, 0)) (bx BK440.out)) : gb449 ≠ gb440)); have n12_ := ak ((by rw [hg]; exact Nat.ne_of_lt (blk_lt (g := gbx) (o := .cells #[.int .i64 0] 30 (0, 0)) (bx BK999.out)) : gbx ≠ gb449)); have n13_ := ak ((by rw [hg]; exact Nat.ne_of_gt (blk_lt (g := gbx) (o := .cells #[.int .i64 0] 30 (0, 0)) (bx BK999.out)) : gb449 ≠ gbx)); clear HO_2; clear BK439; clear BK440; clear BK999; clear HB; have HO_2 := n0_; have BK439 := n1_; have BK440 := n2_; have BK999 := n3_; have HB := n4_; have BK449 := n5_; have GW449 := n6_; have GE449 := n7_; have NB439_449 := n8_; have NB449_439 := n9_; have NB440_449 := n10_; have NB449_440 := n11_; have NB999_449 := n12_; have NB449_999 := n13_; clear n0_ n1_ n2_ n3_ n4_ n5_ n6_ n7_ n8_ n9_ n10_ n11_ n12_ n13_; clear hb hbox hg; have ⟨_, _⟩ := nn NB449_439; have ⟨_, _⟩ := nn NB449_440; have ⟨_, _⟩ := nn NB449_999; have hcz66_0 : w62.cell? ⟨gb449, 0, none⟩ = some (.int .i64 0) := (blk_cell BK449.out 0).trans rfl; have hcz66_1 : w62.cell? ⟨gb449, 1, none⟩ = some (.int .i64 0) := (blk_cell BK449.out 1).trans rfl; have hcz66_2 : w62.cell? ⟨gb449, 2, none⟩ = some (.int .i64 0) := (blk_cell BK449.out 2).trans rfl; have hcz66_3 : w62.cell? ⟨gb449, 3, none⟩ = some (.int .i64 0) := (blk_cell BK449.out 3).trans rfl; have hfz66_0 := blk_frozen BK449.out 0; have hfz66_1 := blk_frozen BK449.out 1; have hfz66_2 := blk_frozen BK449.out 2; have hfz66_3 := blk_frozen BK449.out 3))
  have n0_ : Aside0 (Kd.R (Kd.int .i64) 3 ((((w62.setCell ⟨gb449, 0, none⟩ (.int .i64 ((rd_T98 l0_1 x50_2).f0))).setCell ⟨gb449, 1, none⟩ (.int .i64 ((rd_T98 l0_1 x50_2).f1))).setCell ⟨gb449, 2, none⟩ (.int .i64 ((rd_T98 l0_1 x50_2).f2))).setCell ⟨gb449, 3, none⟩ (.int .i64 ((rd_T98 l0_1 x50_2).f3))) w.heap.size (fun _ => True) v443 x2_1) := ⟨by exact rx (Kd.R_mono (Kd.R_far (p := ⟨gb449, 3, none⟩) (Kd.R_far (p := ⟨gb449, 2, none⟩) (Kd.R_far (p := ⟨gb449, 1, none⟩) (Kd.R_far (p := ⟨gb449, 0, none⟩) (Kd.R_types HO_2.out BK449.out (by decide)) (fun _ hk => hk.2) (.int .i64 ((rd_T98 l0_1 x50_2).f0))) (fun _ hk => hk.2) (.int .i64 ((rd_T98 l0_1 x50_2).f1))) (fun _ hk => hk.2) (.int .i64 ((rd_T98 l0_1 x50_2).f2))) (fun _ hk => hk.2) (.int .i64 ((rd_T98 l0_1 x50_2).f3))) (fun _ hk => trivial))⟩
  have n1_ : Aside0 (((((w62.setCell ⟨gb449, 0, none⟩ (.int .i64 ((rd_T98 l0_1 x50_2).f0))).setCell ⟨gb449, 1, none⟩ (.int .i64 ((rd_T98 l0_1 x50_2).f1))).setCell ⟨gb449, 2, none⟩ (.int .i64 ((rd_T98 l0_1 x50_2).f2))).setCell ⟨gb449, 3, none⟩ (.int .i64 ((rd_T98 l0_1 x50_2).f3))).heap[gb439]? = some (.cells #[.int .i64 a0_0, .slice (some ad448) l0_1.length c0_1] 24 (0, 0))) := ⟨by (with_reducible repeat (first | refine blk_drewN ?_ _ | refine blk_drew ?_ | refine blk_alloc ?_ _)); refine blk_far ?_ NB439_449.out _; (with_reducible repeat (first | refine blk_drewN ?_ _ | refine blk_drew ?_ | refine blk_alloc ?_ _)); refine blk_far ?_ NB439_449.out _; (with_reducible repeat (first | refine blk_drewN ?_ _ | refine blk_drew ?_ | refine blk_alloc ?_ _)); refine blk_far ?_ NB439_449.out _; (with_reducible repeat (first | refine blk_drewN ?_ _ | refine blk_drew ?_ | refine blk_alloc ?_ _)); refine blk_far ?_ NB439_449.out _; exact bx BK439.out⟩
  have n2_ : Aside0 (((((w62.setCell ⟨gb449, 0, none⟩ (.int .i64 ((rd_T98 l0_1 x50_2).f0))).setCell ⟨gb449, 1, none⟩ (.int .i64 ((rd_T98 l0_1 x50_2).f1))).setCell ⟨gb449, 2, none⟩ (.int .i64 ((rd_T98 l0_1 x50_2).f2))).setCell ⟨gb449, 3, none⟩ (.int .i64 ((rd_T98 l0_1 x50_2).f3))).heap[gb440]? = some (.cells #[.slice A1 l1.length c1] 70 (0, 0))) := ⟨by (with_reducible repeat (first | refine blk_drewN ?_ _ | refine blk_drew ?_ | refine blk_alloc ?_ _)); refine blk_far ?_ NB440_449.out _; (with_reducible repeat (first | refine blk_drewN ?_ _ | refine blk_drew ?_ | refine blk_alloc ?_ _)); refine blk_far ?_ NB440_449.out _; (with_reducible repeat (first | refine blk_drewN ?_ _ | refine blk_drew ?_ | refine blk_alloc ?_ _)); refine blk_far ?_ NB440_449.out _; (with_reducible repeat (first | refine blk_drewN ?_ _ | refine blk_drew ?_ | refine blk_alloc ?_ _)); refine blk_far ?_ NB440_449.out _; exact bx BK440.out⟩
  have n3_ : Aside0 (((((w62.setCell ⟨gb449, 0, none⟩ (.int .i64 ((rd_T98 l0_1 x50_2).f0))).setCell ⟨gb449, 1, none⟩ (.int .i64 ((rd_T98 l0_1 x50_2).f1))).setCell ⟨gb449, 2, none⟩ (.int .i64 ((rd_T98 l0_1 x50_2).f2))).setCell ⟨gb449, 3, none⟩ (.int .i64 ((rd_T98 l0_1 x50_2).f3))).heap[gbx]? = some (.cells #[.int .i64 0] 30 (0, 0))) := ⟨by (with_reducible repeat (first | refine blk_drewN ?_ _ | refine blk_drew ?_ | refine blk_alloc ?_ _)); refine blk_far ?_ NB999_449.out _; (with_reducible repeat (first | refine blk_drewN ?_ _ | refine blk_drew ?_ | refine blk_alloc ?_ _)); refine blk_far ?_ NB999_449.out _; (with_reducible repeat (first | refine blk_drewN ?_ _ | refine blk_drew ?_ | refine blk_alloc ?_ _)); refine blk_far ?_ NB999_449.out _; (with_reducible repeat (first | refine blk_drewN ?_ _ | refine blk_drew ?_ | refine blk_alloc ?_ _)); refine blk_far ?_ NB999_449.out _; exact bx BK999.out⟩
  have n4_ : Aside0 (((((w62.setCell ⟨gb449, 0, none⟩ (.int .i64 ((rd_T98 l0_1 x50_2).f0))).setCell ⟨gb449, 1, none⟩ (.int .i64 ((rd_T98 l0_1 x50_2).f1))).setCell ⟨gb449, 2, none⟩ (.int .i64 ((rd_T98 l0_1 x50_2).f2))).setCell ⟨gb449, 3, none⟩ (.int .i64 ((rd_T98 l0_1 x50_2).f3))).heap[gb449]? = some (.cells #[.int .i64 ((rd_T98 l0_1 x50_2).f0), .int .i64 ((rd_T98 l0_1 x50_2).f1), .int .i64 ((rd_T98 l0_1 x50_2).f2), .int .i64 ((rd_T98 l0_1 x50_2).f3)] 98 (0, 0))) := ⟨by (with_reducible repeat (first | refine blk_drewN ?_ _ | refine blk_drew ?_ | refine blk_alloc ?_ _)); refine blk_put (cs := #[.int .i64 ((rd_T98 l0_1 x50_2).f0), .int .i64 ((rd_T98 l0_1 x50_2).f1), .int .i64 ((rd_T98 l0_1 x50_2).f2), .int .i64 0]) ?_ 3 _ rfl; (with_reducible repeat (first | refine blk_drewN ?_ _ | refine blk_drew ?_ | refine blk_alloc ?_ _)); refine blk_put (cs := #[.int .i64 ((rd_T98 l0_1 x50_2).f0), .int .i64 ((rd_T98 l0_1 x50_2).f1), .int .i64 0, .int .i64 0]) ?_ 2 _ rfl; (with_reducible repeat (first | refine blk_drewN ?_ _ | refine blk_drew ?_ | refine blk_alloc ?_ _)); refine blk_put (cs := #[.int .i64 ((rd_T98 l0_1 x50_2).f0), .int .i64 0, .int .i64 0, .int .i64 0]) ?_ 1 _ rfl; (with_reducible repeat (first | refine blk_drewN ?_ _ | refine blk_drew ?_ | refine blk_alloc ?_ _)); refine blk_put (cs := #[.int .i64 0, .int .i64 0, .int .i64 0, .int .i64 0]) ?_ 0 _ rfl; exact bx BK449.out⟩
  have n5_ : Aside0 (Below w.heap.size w ((((w62.setCell ⟨gb449, 0, none⟩ (.int .i64 ((rd_T98 l0_1 x50_2).f0))).setCell ⟨gb449, 1, none⟩ (.int .i64 ((rd_T98 l0_1 x50_2).f1))).setCell ⟨gb449, 2, none⟩ (.int .i64 ((rd_T98 l0_1 x50_2).f2))).setCell ⟨gb449, 3, none⟩ (.int .i64 ((rd_T98 l0_1 x50_2).f3)))) := ⟨lb⟩
  (try clear HO_2)
  (try clear BK439)
  (try clear BK440)
  (try clear BK999)
  (try clear BK449)
  (try clear HB)
  generalize ((((w62.setCell ⟨gb449, 0, none⟩ (.int .i64 ((rd_T98 l0_1 x50_2).f0))).setCell ⟨gb449, 1, none⟩ (.int .i64 ((rd_T98 l0_1 x50_2).f1))).setCell ⟨gb449, 2, none⟩ (.int .i64 ((rd_T98 l0_1 x50_2).f2))).setCell ⟨gb449, 3, none⟩ (.int .i64 ((rd_T98 l0_1 x50_2).f3))) = w67 at n0_ n1_ n2_ n3_ n4_ n5_ ⊢
  have HO_2 := n0_
  have BK439 := n1_
  have BK440 := n2_
  have BK999 := n3_
  have BK449 := n4_
  have HB := n5_
  clear n0_ n1_ n2_ n3_ n4_ n5_
  have n0_ := ak (Kd.R_drew HO_2.out)
  have n1_ := ak (blk_drew BK439.out)
  have n2_ := ak (blk_drew BK440.out)
  have n3_ := ak (blk_drew BK999.out)
  have n4_ := ak (blk_drew BK449.out)
  have n5_ := ak (below_drew1 HB.out)
  clear HO_2
  clear BK439
  clear BK440
  clear BK999
  clear BK449
  clear HB
  have HO_2 := n0_
  have BK439 := n1_
  have BK440 := n2_
  have BK999 := n3_
  have BK449 := n4_
  have HB := n5_
  clear n0_ n1_ n2_ n3_ n4_ n5_
  obtain ⟨Ao69, co69, eo69⟩ := Kd.R_slice HO_2.out
  (first | subst eo69 | (injection eo69 with f1_ f2_ f3_; have f4_ := f1_.symm; have f5_ := f3_.symm; clear f1_ f2_ f3_; subst f4_; subst f5_))
  have p450 : 0 ≤ (((rd_T98 l0_1 x50_2).f0) : Int) := oda
  have q450 : ((rd_T98 l0_1 x50_2).f0) < (x2_1.length : Int) := oda
  obtain ⟨ad450, e450, hx450_0⟩ := Kd.at_int (Kd.R_reads' HO_2.out).2.2 ((rd_T98 l0_1 x50_2).f0) p450 q450
  cases e450
  replace p450 := eq_true p450
  replace q450 := eq_true q450
  have p451 : 0 ≤ (((rd_T98 l0_1 x50_2).f1) : Int) := oda
  have q451 : ((rd_T98 l0_1 x50_2).f1) < (x2_1.length : Int) := oda
  obtain ⟨ad451, e451, hx451_0⟩ := Kd.at_int (Kd.R_reads' HO_2.out).2.2 ((rd_T98 l0_1 x50_2).f1) p451 q451
  obtain rfl : ad450 = ad451 := (by injection e451)
  replace p451 := eq_true p451
  replace q451 := eq_true q451
  refine stC 12 [] (cX (bc0 BK449) (cX (bc1 BK449) (cX (bc2 BK449) (cX (bc3 BK449) (cX hx450_0 (cY hx451_0)))))) proof_Acyclic_1.tab12 proof_Acyclic_1.bits12 fun hHeld HT_ HW_ => ?_
  generalize w67.drew = w68 at HO_2 BK439 BK440 BK999 BK449 HB hx450_0 hx451_0 hHeld ⊢
  refine pv HT_ 0 54 ?_; refine pv HT_ 1 55 ?_; refine pv HT_ 5 59 ?_; refine pv HT_ 6 60 ?_; refine tv HT_ HW_ hHeld 2 56 ?_; refine pv HT_ 3 57 ?_; refine tv HT_ HW_ hHeld 4 58 ?_; refine tv HT_ HW_ hHeld 7 61 ?_; refine pv HT_ 8 62 ?_; refine tv HT_ HW_ hHeld 9 63 ?_; refine pv HT_ 10 64 ?_
  refine one_ (i := 11) (N := some 65) #[true, true, true, true, true, true, true, true, true, true, true, true] rfl rfl (one_of HT_.out (by kernel_rfl)) (by decide) (fun K hK => ?_)
  refine panics_ Try.func51 (by kernel_rfl) rfl #[.bool false, .int .i64 221] (by rfl) rfl rfl (by (try simp only [List.map_toArray, List.map_cons, List.map_nil]); first | done | rfl | (simp only [List.length_drop, List.length_take]; rfl)) ?_
  refine (proof_need.bad 221 _).mono ?_
  rintro e w' ⟨rfl, rfl⟩
  refine ⟨_, rfl, ?_⟩
  (repeat (first | refine panic_then ?_ | refine panic_block ?_))
  exact panic_body rfl (⟨Gave.no da rfl, (bx BK999.out), lb⟩)
  try go_wp2
 rw [if_pos c52] at H
 have c52b0 := decide_eq_true c52
 clear c52
 have A53 := ak (show proof_need.f true 221 = some () from rfl)
 have H' := ak H
 clear H
 have p448 : 0 ≤ (x50_2 : Int) := oda
 have q448 : x50_2 < (l0_1.length : Int) := oda
 obtain ⟨ad448, e448, hx448_0, hx448_1, hx448_2, hx448_3⟩ := at_T98 HR0_1.out x50_2 p448 q448
 cases e448
 (try replace hx448_0 := hbc HB hx448_0)
 (try replace hx448_1 := hbc HB hx448_1)
 (try replace hx448_2 := hbc HB hx448_2)
 (try replace hx448_3 := hbc HB hx448_3)
 replace p448 := eq_true p448
 replace q448 := eq_true q448
 try go_wp2_with (first | ((with_reducible refine gate_dst (N := 6) rfl ?_); refine bxe 6 #[.int .i64 0, .int .i64 0, .int .i64 0, .int .i64 0] 98 ?_; intro gb449 hg w54 hbox hb; have n0_ := ak (ro HO_2 hb); have n1_ := ak (bo BK439 hb); have n2_ := ak (bo BK440 hb); have n3_ := ak (blk_below (g := gbx) (o := .cells #[.int .i64 0] 30 (0, 0)) (bx BK999.out) hb); have n4_ := ak (bl hb); have n5_ := ak (hbox); have n6_ := ak ((by rw [hg]; exact (below_size lb) : w.heap.size ≤ gb449)); have n7_ := ak ((by rw [hg]; exact (below_size lb) : w.heap.size ≤ gb449)); have n8_ := ak ((by rw [hg]; exact Nat.ne_of_lt (blk_lt (g := gb439) (o := .cells #[.int .i64 a0_0, .slice (some ad448) l0_1.length c0_1] 24 (0, 0)) (bx BK439.out)) : gb439 ≠ gb449)); have n9_ := ak ((by rw [hg]; exact Nat.ne_of_gt (blk_lt (g := gb439) (o := .cells #[.int .i64 a0_0, .slice (some ad448) l0_1.length c0_1] 24 (0, 0)) (bx BK439.out)) : gb449 ≠ gb439)); have n10_ := ak ((by rw [hg]; exact Nat.ne_of_lt (blk_lt (g := gb440) (o := .cells #[.slice A1 l1.length c1] 70 (0, 0)) (bx BK440.out)) : gb440 ≠ gb449)); have n11_ := ak ((by rw [hg]; exact Nat.ne_of_gt (blk_lt (g := gb440) (o := .cells #[.slice A1 l1.length c1] 70 (0, 0)) (bx BK440.out)) : gb449 ≠ gb440)); have n12_ := ak ((by rw [hg]; exact Nat.ne_of_lt (blk_lt (g := gbx) (o := .cells #[.int .i64 0] 30 (0, 0)) (bx BK999.out)) : gbx ≠ gb449)); have n13_ := ak ((by rw [hg]; exact Nat.ne_of_gt (blk_lt (g := gbx) (o := .cells #[.int .i64 0] 30 (0, 0)) (bx BK999.out)) : gb449 ≠ gbx)); clear HO_2; clear BK439; clear BK440; clear BK999; clear HB; have HO_2 := n0_; have BK439 := n1_; have BK440 := n2_; have BK999 := n3_; have HB := n4_; have BK449 := n5_; have GW449 := n6_; have GE449 := n7_; have NB439_449 := n8_; have NB449_439 := n9_; have NB440_449 := n10_; have NB449_440 := n11_; have NB999_449 := n12_; have NB449_999 := n13_; clear n0_ n1_ n2_ n3_ n4_ n5_ n6_ n7_ n8_ n9_ n10_ n11_ n12_ n13_; clear hb hbox hg; have ⟨_, _⟩ := nn NB449_439; have ⟨_, _⟩ := nn NB449_440; have ⟨_, _⟩ := nn NB449_999; have hcz58_0 : w54.cell? ⟨gb449, 0, none⟩ = some (.int .i64 0) := (blk_cell BK449.out 0).trans rfl; have hcz58_1 : w54.cell? ⟨gb449, 1, none⟩ = some (.int .i64 0) := (blk_cell BK449.out 1).trans rfl; have hcz58_2 : w54.cell? ⟨gb449, 2, none⟩ = some (.int .i64 0) := (blk_cell BK449.out 2).trans rfl; have hcz58_3 : w54.cell? ⟨gb449, 3, none⟩ = some (.int .i64 0) := (blk_cell BK449.out 3).trans rfl; have hfz58_0 := blk_frozen BK449.out 0; have hfz58_1 := blk_frozen BK449.out 1; have hfz58_2 := blk_frozen BK449.out 2; have hfz58_3 := blk_frozen BK449.out 3))
 have n0_ : Aside0 (Kd.R (Kd.int .i64) 3 ((((w54.setCell ⟨gb449, 0, none⟩ (.int .i64 ((rd_T98 l0_1 x50_2).f0))).setCell ⟨gb449, 1, none⟩ (.int .i64 ((rd_T98 l0_1 x50_2).f1))).setCell ⟨gb449, 2, none⟩ (.int .i64 ((rd_T98 l0_1 x50_2).f2))).setCell ⟨gb449, 3, none⟩ (.int .i64 ((rd_T98 l0_1 x50_2).f3))) w.heap.size (fun _ => True) v443 x2_1) := ⟨by exact rx (Kd.R_mono (Kd.R_far (p := ⟨gb449, 3, none⟩) (Kd.R_far (p := ⟨gb449, 2, none⟩) (Kd.R_far (p := ⟨gb449, 1, none⟩) (Kd.R_far (p := ⟨gb449, 0, none⟩) (Kd.R_types HO_2.out BK449.out (by decide)) (fun _ hk => hk.2) (.int .i64 ((rd_T98 l0_1 x50_2).f0))) (fun _ hk => hk.2) (.int .i64 ((rd_T98 l0_1 x50_2).f1))) (fun _ hk => hk.2) (.int .i64 ((rd_T98 l0_1 x50_2).f2))) (fun _ hk => hk.2) (.int .i64 ((rd_T98 l0_1 x50_2).f3))) (fun _ hk => trivial))⟩
 have n1_ : Aside0 (((((w54.setCell ⟨gb449, 0, none⟩ (.int .i64 ((rd_T98 l0_1 x50_2).f0))).setCell ⟨gb449, 1, none⟩ (.int .i64 ((rd_T98 l0_1 x50_2).f1))).setCell ⟨gb449, 2, none⟩ (.int .i64 ((rd_T98 l0_1 x50_2).f2))).setCell ⟨gb449, 3, none⟩ (.int .i64 ((rd_T98 l0_1 x50_2).f3))).heap[gb439]? = some (.cells #[.int .i64 a0_0, .slice (some ad448) l0_1.length c0_1] 24 (0, 0))) := ⟨by (with_reducible repeat (first | refine blk_drewN ?_ _ | refine blk_drew ?_ | refine blk_alloc ?_ _)); refine blk_far ?_ NB439_449.out _; (with_reducible repeat (first | refine blk_drewN ?_ _ | refine blk_drew ?_ | refine blk_alloc ?_ _)); refine blk_far ?_ NB439_449.out _; (with_reducible repeat (first | refine blk_drewN ?_ _ | refine blk_drew ?_ | refine blk_alloc ?_ _)); refine blk_far ?_ NB439_449.out _; (with_reducible repeat (first | refine blk_drewN ?_ _ | refine blk_drew ?_ | refine blk_alloc ?_ _)); refine blk_far ?_ NB439_449.out _; exact bx BK439.out⟩
 have n2_ : Aside0 (((((w54.setCell ⟨gb449, 0, none⟩ (.int .i64 ((rd_T98 l0_1 x50_2).f0))).setCell ⟨gb449, 1, none⟩ (.int .i64 ((rd_T98 l0_1 x50_2).f1))).setCell ⟨gb449, 2, none⟩ (.int .i64 ((rd_T98 l0_1 x50_2).f2))).setCell ⟨gb449, 3, none⟩ (.int .i64 ((rd_T98 l0_1 x50_2).f3))).heap[gb440]? = some (.cells #[.slice A1 l1.length c1] 70 (0, 0))) := ⟨by (with_reducible repeat (first | refine blk_drewN ?_ _ | refine blk_drew ?_ | refine blk_alloc ?_ _)); refine blk_far ?_ NB440_449.out _; (with_reducible repeat (first | refine blk_drewN ?_ _ | refine blk_drew ?_ | refine blk_alloc ?_ _)); refine blk_far ?_ NB440_449.out _; (with_reducible repeat (first | refine blk_drewN ?_ _ | refine blk_drew ?_ | refine blk_alloc ?_ _)); refine blk_far ?_ NB440_449.out _; (with_reducible repeat (first | refine blk_drewN ?_ _ | refine blk_drew ?_ | refine blk_alloc ?_ _)); refine blk_far ?_ NB440_449.out _; exact bx BK440.out⟩
 have n3_ : Aside0 (((((w54.setCell ⟨gb449, 0, none⟩ (.int .i64 ((rd_T98 l0_1 x50_2).f0))).setCell ⟨gb449, 1, none⟩ (.int .i64 ((rd_T98 l0_1 x50_2).f1))).setCell ⟨gb449, 2, none⟩ (.int .i64 ((rd_T98 l0_1 x50_2).f2))).setCell ⟨gb449, 3, none⟩ (.int .i64 ((rd_T98 l0_1 x50_2).f3))).heap[gbx]? = some (.cells #[.int .i64 0] 30 (0, 0))) := ⟨by (with_reducible repeat (first | refine blk_drewN ?_ _ | refine blk_drew ?_ | refine blk_alloc ?_ _)); refine blk_far ?_ NB999_449.out _; (with_reducible repeat (first | refine blk_drewN ?_ _ | refine blk_drew ?_ | refine blk_alloc ?_ _)); refine blk_far ?_ NB999_449.out _; (with_reducible repeat (first | refine blk_drewN ?_ _ | refine blk_drew ?_ | refine blk_alloc ?_ _)); refine blk_far ?_ NB999_449.out _; (with_reducible repeat (first | refine blk_drewN ?_ _ | refine blk_drew ?_ | refine blk_alloc ?_ _)); refine blk_far ?_ NB999_449.out _; exact bx BK999.out⟩
 have n4_ : Aside0 (((((w54.setCell ⟨gb449, 0, none⟩ (.int .i64 ((rd_T98 l0_1 x50_2).f0))).setCell ⟨gb449, 1, none⟩ (.int .i64 ((rd_T98 l0_1 x50_2).f1))).setCell ⟨gb449, 2, none⟩ (.int .i64 ((rd_T98 l0_1 x50_2).f2))).setCell ⟨gb449, 3, none⟩ (.int .i64 ((rd_T98 l0_1 x50_2).f3))).heap[gb449]? = some (.cells #[.int .i64 ((rd_T98 l0_1 x50_2).f0), .int .i64 ((rd_T98 l0_1 x50_2).f1), .int .i64 ((rd_T98 l0_1 x50_2).f2), .int .i64 ((rd_T98 l0_1 x50_2).f3)] 98 (0, 0))) := ⟨by (with_reducible repeat (first | refine blk_drewN ?_ _ | refine blk_drew ?_ | refine blk_alloc ?_ _)); refine blk_put (cs := #[.int .i64 ((rd_T98 l0_1 x50_2).f0), .int .i64 ((rd_T98 l0_1 x50_2).f1), .int .i64 ((rd_T98 l0_1 x50_2).f2), .int .i64 0]) ?_ 3 _ rfl; (with_reducible repeat (first | refine blk_drewN ?_ _ | refine blk_drew ?_ | refine blk_alloc ?_ _)); refine blk_put (cs := #[.int .i64 ((rd_T98 l0_1 x50_2).f0), .int .i64 ((rd_T98 l0_1 x50_2).f1), .int .i64 0, .int .i64 0]) ?_ 2 _ rfl; (with_reducible repeat (first | refine blk_drewN ?_ _ | refine blk_drew ?_ | refine blk_alloc ?_ _)); refine blk_put (cs := #[.int .i64 ((rd_T98 l0_1 x50_2).f0), .int .i64 0, .int .i64 0, .int .i64 0]) ?_ 1 _ rfl; (with_reducible repeat (first | refine blk_drewN ?_ _ | refine blk_drew ?_ | refine blk_alloc ?_ _)); refine blk_put (cs := #[.int .i64 0, .int .i64 0, .int .i64 0, .int .i64 0]) ?_ 0 _ rfl; exact bx BK449.out⟩
 have n5_ : Aside0 (Below w.heap.size w ((((w54.setCell ⟨gb449, 0, none⟩ (.int .i64 ((rd_T98 l0_1 x50_2).f0))).setCell ⟨gb449, 1, none⟩ (.int .i64 ((rd_T98 l0_1 x50_2).f1))).setCell ⟨gb449, 2, none⟩ (.int .i64 ((rd_T98 l0_1 x50_2).f2))).setCell ⟨gb449, 3, none⟩ (.int .i64 ((rd_T98 l0_1 x50_2).f3)))) := ⟨lb⟩
 (try clear HO_2)
 (try clear BK439)
 (try clear BK440)
 (try clear BK999)
 (try clear BK449)
 (try clear HB)
 generalize ((((w54.setCell ⟨gb449, 0, none⟩ (.int .i64 ((rd_T98 l0_1 x50_2).f0))).setCell ⟨gb449, 1, none⟩ (.int .i64 ((rd_T98 l0_1 x50_2).f1))).setCell ⟨gb449, 2, none⟩ (.int .i64 ((rd_T98 l0_1 x50_2).f2))).setCell ⟨gb449, 3, none⟩ (.int .i64 ((rd_T98 l0_1 x50_2).f3))) = w59 at n0_ n1_ n2_ n3_ n4_ n5_ ⊢
 have HO_2 := n0_
 have BK439 := n1_
 have BK440 := n2_
 have BK999 := n3_
 have BK449 := n4_
 have HB := n5_
 clear n0_ n1_ n2_ n3_ n4_ n5_
 have n0_ := ak (Kd.R_drew HO_2.out)
 have n1_ := ak (blk_drew BK439.out)
 have n2_ := ak (blk_drew BK440.out)
 have n3_ := ak (blk_drew BK999.out)
 have n4_ := ak (blk_drew BK449.out)
 have n5_ := ak (below_drew1 HB.out)
 clear HO_2
 clear BK439
 clear BK440
 clear BK999
 clear BK449
 clear HB
 have HO_2 := n0_
 have BK439 := n1_
 have BK440 := n2_
 have BK999 := n3_
 have BK449 := n4_
 have HB := n5_
 clear n0_ n1_ n2_ n3_ n4_ n5_
 obtain ⟨Ao61, co61, eo61⟩ := Kd.R_slice HO_2.out
 (first | subst eo61 | (injection eo61 with f1_ f2_ f3_; have f4_ := f1_.symm; have f5_ := f3_.symm; clear f1_ f2_ f3_; subst f4_; subst f5_))
 have p450 : 0 ≤ (((rd_T98 l0_1 x50_2).f0) : Int) := oda
 have q450 : ((rd_T98 l0_1 x50_2).f0) < (x2_1.length : Int) := oda
 obtain ⟨ad450, e450, hx450_0⟩ := Kd.at_int (Kd.R_reads' HO_2.out).2.2 ((rd_T98 l0_1 x50_2).f0) p450 q450
 cases e450
 replace p450 := eq_true p450
 replace q450 := eq_true q450
 have p451 : 0 ≤ (((rd_T98 l0_1 x50_2).f1) : Int) := oda
 have q451 : ((rd_T98 l0_1 x50_2).f1) < (x2_1.length : Int) := oda
 obtain ⟨ad451, e451, hx451_0⟩ := Kd.at_int (Kd.R_reads' HO_2.out).2.2 ((rd_T98 l0_1 x50_2).f1) p451 q451
 obtain rfl : ad450 = ad451 := (by injection e451)
 replace p451 := eq_true p451
 replace q451 := eq_true q451
 refine stC 12 [] (cX (bc0 BK449) (cX (bc1 BK449) (cX (bc2 BK449) (cX (bc3 BK449) (cX hx450_0 (cY hx451_0)))))) proof_Acyclic_1.tab12 proof_Acyclic_1.bits12 fun hHeld HT_ HW_ => ?_
 generalize w59.drew = w60 at HO_2 BK439 BK440 BK999 BK449 HB hx450_0 hx451_0 hHeld ⊢
 refine pv HT_ 0 54 ?_; refine pv HT_ 1 55 ?_; refine pv HT_ 5 59 ?_; refine pv HT_ 6 60 ?_; refine tv HT_ HW_ hHeld 2 56 ?_; refine pv HT_ 3 57 ?_; refine tv HT_ HW_ hHeld 4 58 ?_; refine tv HT_ HW_ hHeld 7 61 ?_; refine pv HT_ 8 62 ?_; refine tv HT_ HW_ hHeld 9 63 ?_; refine pv HT_ 10 64 ?_
 refine one_ (i := 11) (N := some 65) #[true, true, true, true, true, true, true, true, true, true, true, true] rfl rfl (one_of HT_.out (by kernel_rfl)) (by decide) (fun K hK => ?_)
 refine goes_ Try.func51 (by kernel_rfl) rfl #[.bool true, .int .i64 221] (by rfl) rfl rfl (by (try simp only [List.map_toArray, List.map_cons, List.map_nil]); first | done | rfl | (simp only [List.length_drop, List.length_take]; rfl)) ?_
 with_reducible refine (proof_need.calls true 221  _ A53.out).mono ?_
 rintro e w' ⟨rfl, ⟨nd, rfl⟩⟩
 refine ⟨_, rfl, ?_⟩
 refine hK.out _ _ ⟨(blk_cell BK449.out 0).trans rfl, (blk_cell BK449.out 1).trans rfl, (blk_cell BK449.out 2).trans rfl, (blk_cell BK449.out 3).trans rfl, hHeld.2.2.2.2.1, hHeld.2.2.2.2.2⟩ (fun hHeld => ?_)
 clear hK K
 refine norm_ (a' := ?_) ?_ ?_
 rotate_left
 ·
  show Act.put _ (some 65) _ = _
  simp only [Act.put, List.setIfInBounds_toArray, List.set_cons_zero, List.set_cons_succ, i64_w, i32_w]
  rfl
 refine done_ (done_of HT_.out (by kernel_rfl)) ?_
 try go_wp2
 go_roundg k2
 case measure => have := HK1.out; have := HK2.out; omega
 case rel => exact ⟨(wrap64 (x50_2 + 1)), sr, H', ⟨by have := HK1.out; have := HK2.out; omega⟩, ⟨rx HO_2.out⟩, xb BK439, xb BK440, xb BK999, ⟨lb⟩⟩
end Go.Proofs.Ytkdoihcjhccliaa.Q
