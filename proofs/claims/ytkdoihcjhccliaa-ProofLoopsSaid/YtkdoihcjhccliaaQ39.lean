-- PRINTED by print.py (a twelfth state) out of the translation. Not trusted: Lean checks it.
import Derived.Test.YtkdoihcjhccliaaQ0
import Derived.Test.YtkdoihcjhccliaaQ57
import Derived.Test.YtkdoihcjhccliaaQ19
import Derived.Test.YtkdoihcjhccliaaQ35
import Derived.Test.YtkdoihcjhccliaaQ37
import Derived.Test.YtkdoihcjhccliaaQ38
namespace Go.Proofs.Ytkdoihcjhccliaa.Q
open Go.RowKit Go.Proofs.YtkdoihcjhccliaaW.PrintWords Go.Proofs.YtkdoihcjhccliaaW.PrintLast Go.Proofs.YtkdoihcjhccliaaW.PrintMore
attribute [local go_sem] max2_int min2_int max_two min_two max_three min_three max_four min_four   -- for this text's walks alone
set_option linter.unusedVariables false
set_option linter.unusedSimpArgs false

attribute [local go_sem high] eqA74
/-! ### compasslaw11_ProofLoops: function 12 -/
def compasslaw11_ProofLoops.j0 : Nat → Int → Int → Int → Bool → Int → Int → Option (Bool)
  | 0, _, _, _, _, _, _ => none
  | k + 1, x9, x10, x11, x41, x468000, x468001 => if x41 = true then (some false) else (if x11 = 0 then (if x468001 > 0 then (if (wrap64 (x468000 * x10)) = (wrap64 (x9 * x468001)) then ((safeint_Gcd.f k x468000 x468001).bind fun t473 => (some (t473 == 1))) else (some false)) else (some false)) else (some (x468000 == 0 && (x468001 == 0))))
def compasslaw11_ProofLoops.f (k : Nat) (a0_0 : Int) (l0_1 : List (S98)) (l1_0 : List Int) (l1_1 : List Int) (l2 : List Int) : Option (Bool) := (compasslaw11_awake.f k).bind fun t463 => (if t463 = true then ((proof_Mean.f k a0_0 l0_1 l1_0 l1_1).bind fun bt464 => ((compassref11_Mean.f k a0_0 l0_1 l1_0 l1_1).bind fun bt468 => (if bt464.2.2 = bt468.2.2 then ((proof_Acyclic.f k a0_0 l0_1 l2).bind fun t471 => ((compassref11_Acyclic.f k a0_0 l0_1 l2).bind fun t472 => (compasslaw11_ProofLoops.j0 k bt468.1 bt468.2.1 bt468.2.2 (t471 != t472) bt464.1 bt464.2.1))) else (compasslaw11_ProofLoops.j0 k bt468.1 bt468.2.1 bt468.2.2 true bt464.1 bt464.2.1)))) else (some false))
def compasslaw11_ProofLoops.T5 : Bool × List (List Nat × List Nat) := (true, [([], []), ([], []), ([0, 1], [0, 1]), ([2], [2]), ([3], [3]), ([3], [3]), ([4, 5, 3, 3], [3, 4, 5]), ([3], [3]), ([3], [3]), ([7, 8, 6, 3], [3, 7, 8]), ([6, 9, 3], [3, 6, 9]), ([3, 10], [3, 10])])
def compasslaw11_ProofLoops.B5 : List Nat := [0, 0, 3, 7, 15, 15, 63, 15, 15, 511, 1023, 2047]
theorem compasslaw11_ProofLoops.tab5 : rtab .any (opsOf Try.f12 5) = compasslaw11_ProofLoops.T5 := by kernel_rfl
theorem compasslaw11_ProofLoops.bits5 : waitsOk compasslaw11_ProofLoops.T5.2 compasslaw11_ProofLoops.B5 = true := by kernel_rfl
set_option maxHeartbeats 8000000 in
set_option maxRecDepth 100000 in
theorem compasslaw11_ProofLoops.calls (k : Nat) (a0_0 : Int) (A0_1 : Option Addr) (c0_1 : Nat) (l0_1 : List (S98)) (A1_0 : Option Addr) (c1_0 : Nat) (l1_0 : List Int) (A1_1 : Option Addr) (c1_1 : Nat) (l1_1 : List Int) (A2 : Option Addr) (c2 : Nat) (l2 : List Int) (r : Bool) (w : World) (hr0_1 : Kd.C k98 w A0_1 l0_1.length l0_1) (hc0_1 : l0_1.length ≤ c0_1) (hr1_0 : Kd.C (Kd.int .i64) w A1_0 l1_0.length l1_0) (hc1_0 : l1_0.length ≤ c1_0) (hr1_1 : Kd.C (Kd.int .i64) w A1_1 l1_1.length l1_1) (hc1_1 : l1_1.length ≤ c1_1) (hr2 : Kd.C (Kd.int .i64) w A2 l2.length l2) (hc2 : l2.length ≤ c2) (hr_ : r = true) (h : compasslaw11_ProofLoops.f k a0_0 l0_1 l1_0 l1_1 l2 = some r) :
    Calls Try.prog 12 #[.agg #[.int .i64 a0_0, .slice A0_1 l0_1.length c0_1], .agg #[.slice A1_0 l1_0.length c1_0, .slice A1_1 l1_1.length c1_1], .slice A2 l2.length c2] w fun e w' => e = .returned (.bool r) ∧ Below w.heap.size w w' := by
 have hu24 := Try.underlying24
 have hu72 := Try.underlying72
 have hu74 := Try.underlying74
 have HR0_1 := ak hr0_1
 have HC0_1 := ak hc0_1
 clear hr0_1 hc0_1
 have HR1_0 := ak hr1_0
 have HC1_0 := ak hc1_0
 clear hr1_0 hc1_0
 have HR1_1 := ak hr1_1
 have HC1_1 := ak hc1_1
 clear hr1_1 hc1_1
 have HR2 := ak hr2
 have HC2 := ak hc2
 clear hr2 hc2
 have HB := ak (Below.refl w.heap.size w)
 have HR_ := ak hr_
 clear hr_
 have H : ((compasslaw11_awake.f k).bind fun t463 => (if t463 = true then ((proof_Mean.f k a0_0 l0_1 l1_0 l1_1).bind fun bt464 => ((compassref11_Mean.f k a0_0 l0_1 l1_0 l1_1).bind fun bt468 => (if bt464.2.2 = bt468.2.2 then ((proof_Acyclic.f k a0_0 l0_1 l2).bind fun t471 => ((compassref11_Acyclic.f k a0_0 l0_1 l2).bind fun t472 => (compasslaw11_ProofLoops.j0 k bt468.1 bt468.2.1 bt468.2.2 (t471 != t472) bt464.1 bt464.2.1))) else (compasslaw11_ProofLoops.j0 k bt468.1 bt468.2.1 bt468.2.2 true bt464.1 bt464.2.1)))) else (some false))) = some r := h
 clear h
 replace H := Option.bind_eq_some_iff.mp H
 obtain ⟨t463, A40, H⟩ := H
 replace H : (if t463 = true then ((proof_Mean.f k a0_0 l0_1 l1_0 l1_1).bind fun bt464 => ((compassref11_Mean.f k a0_0 l0_1 l1_0 l1_1).bind fun bt468 => (if bt464.2.2 = bt468.2.2 then ((proof_Acyclic.f k a0_0 l0_1 l2).bind fun t471 => ((compassref11_Acyclic.f k a0_0 l0_1 l2).bind fun t472 => (compasslaw11_ProofLoops.j0 k bt468.1 bt468.2.1 bt468.2.2 (t471 != t472) bt464.1 bt464.2.1))) else (compasslaw11_ProofLoops.j0 k bt468.1 bt468.2.1 bt468.2.2 true bt464.1 bt464.2.1)))) else (some false)) = some r := H
 have A4 := ak A40
 clear A40
 by_cases c5 : t463 = true
 rotate_left
 ·
  replace c5 := Bool.eq_false_iff.mpr c5
  subst c5
  have H1 : (some false) = some r := by rw [if_neg (show ¬ (false = true) by decide)] at H; exact H
  clear H
  have H := H1
  clear H1
  exact absurd ((Option.some.inj H).trans HR_.out) (by decide)

 subst c5
 have H1 : ((proof_Mean.f k a0_0 l0_1 l1_0 l1_1).bind fun bt464 => ((compassref11_Mean.f k a0_0 l0_1 l1_0 l1_1).bind fun bt468 => (if bt464.2.2 = bt468.2.2 then ((proof_Acyclic.f k a0_0 l0_1 l2).bind fun t471 => ((compassref11_Acyclic.f k a0_0 l0_1 l2).bind fun t472 => (compasslaw11_ProofLoops.j0 k bt468.1 bt468.2.1 bt468.2.2 (t471 != t472) bt464.1 bt464.2.1))) else (compasslaw11_ProofLoops.j0 k bt468.1 bt468.2.1 bt468.2.2 true bt464.1 bt464.2.1)))) = some r := by rw [if_pos rfl] at H; exact H
 clear H
 have H := H1
 clear H1
 replace H := Option.bind_eq_some_iff.mp H
 obtain ⟨⟨t464, t465, t466⟩, A60, H⟩ := H
 replace H : ((compassref11_Mean.f k a0_0 l0_1 l1_0 l1_1).bind fun bt468 => (if t466 = bt468.2.2 then ((proof_Acyclic.f k a0_0 l0_1 l2).bind fun t471 => ((compassref11_Acyclic.f k a0_0 l0_1 l2).bind fun t472 => (compasslaw11_ProofLoops.j0 k bt468.1 bt468.2.1 bt468.2.2 (t471 != t472) t464 t465))) else (compasslaw11_ProofLoops.j0 k bt468.1 bt468.2.1 bt468.2.2 true t464 t465))) = some r := H
 have A6 := ak A60
 clear A60
 replace H := Option.bind_eq_some_iff.mp H
 obtain ⟨⟨t468, t469, t470⟩, A70, H⟩ := H
 replace H : (if t466 = t470 then ((proof_Acyclic.f k a0_0 l0_1 l2).bind fun t471 => ((compassref11_Acyclic.f k a0_0 l0_1 l2).bind fun t472 => (compasslaw11_ProofLoops.j0 k t468 t469 t470 (t471 != t472) t464 t465))) else (compasslaw11_ProofLoops.j0 k t468 t469 t470 true t464 t465)) = some r := H
 have A7 := ak A70
 clear A70
 have HC8 := ak H
 clear H
 go_enter Try.func12, Try.ntmps12
 go_upto_region 5 with (first | ((with_reducible refine gate_dst (N := 3) rfl ?_); refine bxe 3 #[.int .i64 a0_0, .slice A0_1 l0_1.length c0_1] 24 ?_; intro gb461 hg w9 hbox hb; have n0_ := ak (bl hb); have n1_ := ak (hbox); have n2_ := ak ((by rw [hg]; exact (below_size lb) : w.heap.size ≤ gb461)); have n3_ := ak ((by rw [hg]; exact (below_size lb) : w.heap.size ≤ gb461)); clear HB; have HB := n0_; have BK461 := n1_; have GW461 := n2_; have GE461 := n3_; clear n0_ n1_ n2_ n3_; clear hb hbox hg) | ((with_reducible refine gate_dst (N := 4) rfl ?_); refine bxe 4 #[.slice A1_0 l1_0.length c1_0, .slice A1_1 l1_1.length c1_1] 72 ?_; intro gb462 hg w10 hbox hb; have n0_ := ak (bo BK461 hb); have n1_ := ak (bl hb); have n2_ := ak (hbox); have n3_ := ak ((by rw [hg]; exact (below_size lb) : w.heap.size ≤ gb462)); have n4_ := ak ((by rw [hg]; exact (below_size lb) : w.heap.size ≤ gb462)); have n5_ := ak ((by rw [hg]; exact Nat.ne_of_lt (blk_lt (g := gb461) (o := .cells #[.int .i64 a0_0, .slice A0_1 l0_1.length c0_1] 24 (0, 0)) (bx BK461.out)) : gb461 ≠ gb462)); have n6_ := ak ((by rw [hg]; exact Nat.ne_of_gt (blk_lt (g := gb461) (o := .cells #[.int .i64 a0_0, .slice A0_1 l0_1.length c0_1] 24 (0, 0)) (bx BK461.out)) : gb462 ≠ gb461)); clear BK461; clear HB; have BK461 := n0_; have HB := n1_; have BK462 := n2_; have GW462 := n3_; have GE462 := n4_; have NB461_462 := n5_; have NB462_461 := n6_; clear n0_ n1_ n2_ n3_ n4_ n5_ n6_; clear hb hbox hg) | ((with_reducible refine gate_callee (f := 15) rfl ?_); refine gl 12 Try.func15 #[] ?_; (with_reducible refine (compasslaw11_awake.calls k true _ rfl A4.out).mono ?_); rintro e w11 ⟨rfl, hb⟩; refine ⟨_, rfl, ?_⟩; have n0_ := ak (bo BK461 hb); have n1_ := ak (bo BK462 hb); have n2_ := ak (bl hb); clear BK461; clear BK462; clear HB; have BK461 := n0_; have BK462 := n1_; have HB := n2_; clear n0_ n1_ n2_; clear hb; have ⟨_, _⟩ := nn NB461_462; have hcz13_0 : w11.cell? ⟨gb461, 0, none⟩ = some (.int .i64 a0_0) := (blk_cell BK461.out 0).trans rfl; have hcz13_1 : w11.cell? ⟨gb461, 1, none⟩ = some (.slice A0_1 l0_1.length c0_1) := (blk_cell BK461.out 1).trans rfl; have hfz13_0 := blk_frozen BK461.out 0; have hfz13_1 := blk_frozen BK461.out 1; have hcz14_0 : w11.cell? ⟨gb462, 0, none⟩ = some (.slice A1_0 l1_0.length c1_0) := (blk_cell BK462.out 0).trans rfl; have hcz14_1 : w11.cell? ⟨gb462, 1, none⟩ = some (.slice A1_1 l1_1.length c1_1) := (blk_cell BK462.out 1).trans rfl; have hfz14_0 := blk_frozen BK462.out 0; have hfz14_1 := blk_frozen BK462.out 1) | ((with_reducible refine gate_callee (f := 37) rfl ?_); refine gl 17 Try.func37 #[.agg #[.int .i64 a0_0, .slice A0_1 l0_1.length c0_1], .agg #[.slice A1_0 l1_0.length c1_0, .slice A1_1 l1_1.length c1_1]] ?_; (with_reducible refine (proof_Mean.calls k a0_0 _ _ l0_1 _ _ l1_0 _ _ l1_1 t464 t465 t466 _ (Kd.C_below HR0_1.out lb) HC0_1.out (Kd.C_below HR1_0.out lb) HC1_0.out (Kd.C_below HR1_1.out lb) HC1_1.out A6.out).mono ?_); rintro e w15 ⟨rfl, hb⟩; refine ⟨_, rfl, ?_⟩; have n0_ := ak (bo BK461 hb); have n1_ := ak (bo BK462 hb); have n2_ := ak (bl hb); clear BK461; clear BK462; clear HB; have BK461 := n0_; have BK462 := n1_; have HB := n2_; clear n0_ n1_ n2_; clear hb) | ((with_reducible refine gate_dst (N := 7) rfl ?_); refine bxe 7 #[.int .i64 0, .int .i64 0] 74 ?_; intro gb467 hg w16 hbox hb; have n0_ := ak (bo BK461 hb); have n1_ := ak (bo BK462 hb); have n2_ := ak (bl hb); have n3_ := ak (hbox); have n4_ := ak ((by rw [hg]; exact (below_size lb) : w.heap.size ≤ gb467)); have n5_ := ak ((by rw [hg]; exact (below_size lb) : w.heap.size ≤ gb467)); have n6_ := ak ((by rw [hg]; exact Nat.ne_of_lt (blk_lt (g := gb461) (o := .cells #[.int .i64 a0_0, .slice A0_1 l0_1.length c0_1] 24 (0, 0)) (bx BK461.out)) : gb461 ≠ gb467)); have n7_ := ak ((by rw [hg]; exact Nat.ne_of_gt (blk_lt (g := gb461) (o := .cells #[.int .i64 a0_0, .slice A0_1 l0_1.length c0_1] 24 (0, 0)) (bx BK461.out)) : gb467 ≠ gb461)); have n8_ := ak ((by rw [hg]; exact Nat.ne_of_lt (blk_lt (g := gb462) (o := .cells #[.slice A1_0 l1_0.length c1_0, .slice A1_1 l1_1.length c1_1] 72 (0, 0)) (bx BK462.out)) : gb462 ≠ gb467)); have n9_ := ak ((by rw [hg]; exact Nat.ne_of_gt (blk_lt (g := gb462) (o := .cells #[.slice A1_0 l1_0.length c1_0, .slice A1_1 l1_1.length c1_1] 72 (0, 0)) (bx BK462.out)) : gb467 ≠ gb462)); clear BK461; clear BK462; clear HB; have BK461 := n0_; have BK462 := n1_; have HB := n2_; have BK467 := n3_; have GW467 := n4_; have GE467 := n5_; have NB461_467 := n6_; have NB467_461 := n7_; have NB462_467 := n8_; have NB467_462 := n9_; clear n0_ n1_ n2_ n3_ n4_ n5_ n6_ n7_ n8_ n9_; clear hb hbox hg; have ⟨_, _⟩ := nn NB467_461; have ⟨_, _⟩ := nn NB467_462; have hcz19_0 : w16.cell? ⟨gb467, 0, none⟩ = some (.int .i64 0) := (blk_cell BK467.out 0).trans rfl; have hcz19_1 : w16.cell? ⟨gb467, 1, none⟩ = some (.int .i64 0) := (blk_cell BK467.out 1).trans rfl; have hfz19_0 := blk_frozen BK467.out 0; have hfz19_1 := blk_frozen BK467.out 1; have hcz20_0 : w16.cell? ⟨gb461, 0, none⟩ = some (.int .i64 a0_0) := (blk_cell BK461.out 0).trans rfl; have hcz20_1 : w16.cell? ⟨gb461, 1, none⟩ = some (.slice A0_1 l0_1.length c0_1) := (blk_cell BK461.out 1).trans rfl; have hfz20_0 := blk_frozen BK461.out 0; have hfz20_1 := blk_frozen BK461.out 1; have hcz21_0 : w16.cell? ⟨gb462, 0, none⟩ = some (.slice A1_0 l1_0.length c1_0) := (blk_cell BK462.out 0).trans rfl; have hcz21_1 : w16.cell? ⟨gb462, 1, none⟩ = some (.slice A1_1 l1_1.length c1_1) := (blk_cell BK462.out 1).trans rfl; have hfz21_0 := blk_frozen BK462.out 0; have hfz21_1 := blk_frozen BK462.out 1) | ((with_reducible refine gate_callee (f := 38) rfl ?_); refine gl 26 Try.func38 #[.agg #[.int .i64 a0_0, .slice A0_1 l0_1.length c0_1], .slice A1_0 l1_0.length c1_0, .slice A1_1 l1_1.length c1_1] ?_; (with_reducible refine (compassref11_Mean.calls k a0_0 _ _ l0_1 _ _ l1_0 _ _ l1_1 t468 t469 t470 _ (Kd.C_below HR0_1.out lb) HC0_1.out (Kd.C_below HR1_0.out lb) HC1_0.out (Kd.C_below HR1_1.out lb) HC1_1.out A7.out).mono ?_); rintro e w22 ⟨rfl, hb⟩; refine ⟨_, rfl, ?_⟩; have n0_ := ak (blk_below (g := gb461) (o := .cells #[.int .i64 a0_0, .slice A0_1 l0_1.length c0_1] 24 (0, 0)) (by (with_reducible repeat (first | refine blk_drewN ?_ _ | refine blk_drew ?_ | refine blk_alloc ?_ _)); refine blk_far ?_ NB461_467.out _; (with_reducible repeat (first | refine blk_drewN ?_ _ | refine blk_drew ?_ | refine blk_alloc ?_ _)); refine blk_far ?_ NB461_467.out _; exact bx BK461.out) hb); have n1_ := ak (blk_below (g := gb462) (o := .cells #[.slice A1_0 l1_0.length c1_0, .slice A1_1 l1_1.length c1_1] 72 (0, 0)) (by (with_reducible repeat (first | refine blk_drewN ?_ _ | refine blk_drew ?_ | refine blk_alloc ?_ _)); refine blk_far ?_ NB462_467.out _; (with_reducible repeat (first | refine blk_drewN ?_ _ | refine blk_drew ?_ | refine blk_alloc ?_ _)); refine blk_far ?_ NB462_467.out _; exact bx BK462.out) hb); have n2_ := ak (blk_below (g := gb467) (o := .cells #[.int .i64 t464, .int .i64 t465] 74 (0, 0)) (by (with_reducible repeat (first | refine blk_drewN ?_ _ | refine blk_drew ?_ | refine blk_alloc ?_ _)); refine blk_put (cs := #[.int .i64 t464, .int .i64 0]) ?_ 1 _ rfl; (with_reducible repeat (first | refine blk_drewN ?_ _ | refine blk_drew ?_ | refine blk_alloc ?_ _)); refine blk_put (cs := #[.int .i64 0, .int .i64 0]) ?_ 0 _ rfl; exact bx BK467.out) hb); have n3_ := ak (bl hb); clear BK461; clear BK462; clear BK467; clear HB; have BK461 := n0_; have BK462 := n1_; have BK467 := n2_; have HB := n3_; clear n0_ n1_ n2_ n3_; clear hb))
 (try simp only [Act.put, List.setIfInBounds_toArray, List.set_cons_zero, List.set_cons_succ])
 go_cut [41] (fun v41 wc => ∃ (kq : Nat) (x41_7 : Bool), v41 = .bool x41_7 ∧ Aside0 (compasslaw11_ProofLoops.j0 kq t468 t469 t470 x41_7 t464 t465 = some r) ∧ Aside0 (kq ≤ k) ∧ Aside0 (wc.heap[gb461]? = some (.cells #[.int .i64 a0_0, (.slice A0_1 l0_1.length c0_1)] 24 (0, 0))) ∧ Aside0 (wc.heap[gb462]? = some (.cells #[(.slice A1_0 l1_0.length c1_0), (.slice A1_1 l1_1.length c1_1)] 72 (0, 0))) ∧ Aside0 (wc.heap[gb467]? = some (.cells #[.int .i64 t464, .int .i64 t465] 74 (0, 0))) ∧ Aside0 (Below w.heap.size w wc))
 case first =>
  have H := HC8.out
  clear HC8
  by_cases c23 : t466 = t470
  rotate_left
  ·
   rw [if_neg c23] at H
   have c23b0 := bn c23
   have c23b1 : (t466 != t470) = true := bne_iff_ne.mpr c23
   (first | rw [c23b0] | (simp only [i64_w, i32_w]; rw [c23b0]) | skip)
   have H' := ak H
   clear H
   try go_wp2
   have n0_ := ak (blk_drew BK461.out)
   have n1_ := ak (blk_drew BK462.out)
   have n2_ := ak (blk_drew BK467.out)
   have n3_ := ak (below_drew1 HB.out)
   clear BK461
   clear BK462
   clear BK467
   clear HB
   have BK461 := n0_
   have BK462 := n1_
   have BK467 := n2_
   have HB := n3_
   clear n0_ n1_ n2_ n3_
   refine stC 12 [] cN compasslaw11_ProofLoops.tab5 compasslaw11_ProofLoops.bits5 fun hHeld HT_ HW_ => ?_
   generalize w22.drew = w29 at BK461 BK462 BK467 HB hHeld ⊢
   refine pv HT_ 0 30 ?_; refine pv HT_ 1 31 ?_; refine pv HT_ 2 32 ?_; refine pv HT_ 3 33 ?_; refine pu HT_ 4 34 ?_; refine pu HT_ 5 35 ?_; refine pu HT_ 6 36 ?_; refine pu HT_ 7 37 ?_; refine pu HT_ 8 38 ?_; refine pu HT_ 9 39 ?_; refine pu HT_ 10 40 ?_; refine pv HT_ 11 41 ?_
   refine done_ (done_of HT_.out (by kernel_rfl)) ?_
   try go_wp2
   go_meet
   case rel => exact ⟨_, (true), sr, H', ⟨by first | omega | exact Nat.le_refl _⟩, xb BK461, xb BK462, xb BK467, ⟨lb⟩⟩
  rw [if_pos c23] at H
  have c23b0 := be c23
  have c23b1 : (t466 != t470) = false := bne_eq_false_iff_eq.mpr c23
  clear c23
  (first | rw [c23b0] | (simp only [i64_w, i32_w]; rw [c23b0]) | skip)
  replace H := Option.bind_eq_some_iff.mp H
  obtain ⟨t471, A240, H⟩ := H
  replace H : ((compassref11_Acyclic.f k a0_0 l0_1 l2).bind fun t472 => (compasslaw11_ProofLoops.j0 k t468 t469 t470 (t471 != t472) t464 t465)) = some r := H
  have A24 := ak A240
  clear A240
  replace H := Option.bind_eq_some_iff.mp H
  obtain ⟨t472, A250, H⟩ := H
  replace H : (compasslaw11_ProofLoops.j0 k t468 t469 t470 (t471 != t472) t464 t465) = some r := H
  have A25 := ak A250
  clear A250
  have H' := ak H
  clear H
  try go_wp2
  have n0_ := ak (blk_drew BK461.out)
  have n1_ := ak (blk_drew BK462.out)
  have n2_ := ak (blk_drew BK467.out)
  have n3_ := ak (below_drew1 HB.out)
  clear BK461
  clear BK462
  clear BK467
  clear HB
  have BK461 := n0_
  have BK462 := n1_
  have BK467 := n2_
  have HB := n3_
  clear n0_ n1_ n2_ n3_
  refine stC 12 [] (cX (bc0 BK461) (cY (bc1 BK461))) compasslaw11_ProofLoops.tab5 compasslaw11_ProofLoops.bits5 fun hHeld HT_ HW_ => ?_
  generalize w22.drew = w26 at BK461 BK462 BK467 HB hHeld ⊢
  refine pv HT_ 0 30 ?_; refine pv HT_ 1 31 ?_; refine pv HT_ 2 32 ?_; refine pv HT_ 3 33 ?_; refine pv HT_ 5 35 ?_; refine pv HT_ 8 38 ?_; refine tv HT_ HW_ hHeld 4 34 ?_; refine tv HT_ HW_ hHeld 7 37 ?_
  refine one_ (i := 6) (N := some 36) #[true, true, true, true, true, true, true, true, true, false, false, false] rfl rfl (one_of HT_.out (by kernel_rfl)) (by decide) (fun K hK => ?_)
  refine goes_ Try.func39 (by kernel_rfl) rfl #[.agg #[.int .i64 a0_0, .slice A0_1 l0_1.length c0_1], .slice A2 l2.length c2] (by rfl) rfl rfl (by (try simp only [List.map_toArray, List.map_cons, List.map_nil]); first | done | rfl | (simp only [List.length_drop, List.length_take]; rfl)) ?_
  with_reducible refine (proof_Acyclic.calls k a0_0 _ _ l0_1 _ _ l2 t471 _ (Kd.C_below HR0_1.out lb) HC0_1.out (Kd.C_below HR2.out lb) HC2.out A24.out).mono ?_
  rintro e w27 ⟨rfl, hb⟩
  refine ⟨_, rfl, ?_⟩
  have n0_ := ak (bo BK461 hb)
  have n1_ := ak (bo BK462 hb)
  have n2_ := ak (bo BK467 hb)
  have n3_ := ak (bl hb)
  clear BK461
  clear BK462
  clear BK467
  clear HB
  have BK461 := n0_
  have BK462 := n1_
  have BK467 := n2_
  have HB := n3_
  clear n0_ n1_ n2_ n3_
  (try clear hb)
  (try clear hb2)
  (try clear hk)
  (try clear hi)
  refine hK.out _ _ ⟨(blk_cell BK461.out 0).trans rfl, (blk_cell BK461.out 1).trans rfl⟩ (fun hHeld => ?_)
  clear hK K
  refine norm_ (a' := ?_) ?_ ?_
  rotate_left
  ·
   show Act.put _ (some 36) _ = _
   simp only [Act.put, List.setIfInBounds_toArray, List.set_cons_zero, List.set_cons_succ, i64_w, i32_w]
   rfl
  refine one_ (i := 9) (N := some 39) #[true, true, true, true, true, true, true, true, true, true, false, false] rfl rfl (one_of HT_.out (by kernel_rfl)) (by decide) (fun K hK => ?_)
  refine goes_ Try.func40 (by kernel_rfl) rfl #[.agg #[.int .i64 a0_0, .slice A0_1 l0_1.length c0_1], .slice A2 l2.length c2] (by rfl) rfl rfl (by (try simp only [List.map_toArray, List.map_cons, List.map_nil]); first | done | rfl | (simp only [List.length_drop, List.length_take]; rfl)) ?_
  with_reducible refine (compassref11_Acyclic.calls k a0_0 _ _ l0_1 _ _ l2 t472 _ (Kd.C_below HR0_1.out lb) HC0_1.out (Kd.C_below HR2.out lb) HC2.out A25.out).mono ?_
  rintro e w28 ⟨rfl, hb⟩
  refine ⟨_, rfl, ?_⟩
  have n0_ := ak (bo BK461 hb)
  have n1_ := ak (bo BK462 hb)
  have n2_ := ak (bo BK467 hb)
  have n3_ := ak (bl hb)
  clear BK461
  clear BK462
  clear BK467
  clear HB
  have BK461 := n0_
  have BK462 := n1_
  have BK467 := n2_
  have HB := n3_
  clear n0_ n1_ n2_ n3_
  (try clear hb)
  (try clear hb2)
  (try clear hk)
  (try clear hi)
  refine hK.out _ _ ⟨(blk_cell BK461.out 0).trans rfl, (blk_cell BK461.out 1).trans rfl⟩ (fun hHeld => ?_)
  clear hK K
  refine norm_ (a' := ?_) ?_ ?_
  rotate_left
  ·
   show Act.put _ (some 39) _ = _
   simp only [Act.put, List.setIfInBounds_toArray, List.set_cons_zero, List.set_cons_succ, i64_w, i32_w]
   rfl
  refine pv HT_ 10 40 ?_; refine pv HT_ 11 41 ?_
  refine done_ (done_of HT_.out (by kernel_rfl)) ?_
  try go_wp2
  go_meet
  case rel => exact ⟨_, ((t471 != t472)), sr, H', ⟨by first | omega | exact Nat.le_refl _⟩, xb BK461, xb BK462, xb BK467, ⟨lb⟩⟩
 case rest =>
  clear HC8
  try clear c1; try clear c2; try clear p2; try clear c3; try clear c4; try clear c5; try clear c12; try clear c15; try clear c17; try clear c18; try clear c23; try clear c23b0; try clear c23b1; try clear hcz13_0; try clear hcz13_1; try clear hcz14_0; try clear hcz14_1; try clear hcz19_0; try clear hcz19_1; try clear hcz20_0; try clear hcz20_1; try clear hcz21_0; try clear hcz21_1; try clear hfz13_0; try clear hfz13_1; try clear hfz14_0; try clear hfz14_1; try clear hfz19_0; try clear hfz19_1; try clear hfz20_0; try clear hfz20_1; try clear hfz21_0; try clear hfz21_1
  obtain ⟨kq, x41_7, rfl, HA, HJ7, BK461, BK462, BK467, HB⟩ := hcut
  cases kq with
  | zero => exact absurd HA.out (by simp [compasslaw11_ProofLoops.j0])
  | succ kj7 =>
   have H := HA.out
   clear HA
   simp only [compasslaw11_ProofLoops.j0] at H
   by_cases c30 : x41_7 = true
   ·
    subst c30
    have H1 : (some false) = some r := by rw [if_pos rfl] at H; exact H
    clear H
    have H := H1
    clear H1
    exact absurd ((Option.some.inj H).trans HR_.out) (by decide)
   replace c30 := Bool.eq_false_iff.mpr c30
   subst c30
   have H1 : (if t470 = 0 then (if t465 > 0 then (if (wrap64 (t464 * t469)) = (wrap64 (t468 * t465)) then ((safeint_Gcd.f kj7 t464 t465).bind fun t473 => (some (t473 == 1))) else (some false)) else (some false)) else (some (t464 == 0 && (t465 == 0)))) = some r := by rw [if_neg (show ¬ (false = true) by decide)] at H; exact H
   clear H
   have H := H1
   clear H1
   by_cases c31 : t470 = 0
   rotate_left
   ·
    rw [if_neg c31] at H
    have c31b0 := bn c31
    have c31b1 : (t470 != 0) = true := bne_iff_ne.mpr c31
    obtain rfl := Option.some.inj H
    have hnb38 := NB467_461.out
    have hnc38 := NB461_467.out
    have hnb39 := NB467_462.out
    have hnc39 := NB462_467.out
    have hcz40_0 : wc.cell? ⟨gb467, 0, none⟩ = some (.int .i64 t464) := (blk_cell BK467.out 0).trans rfl
    have hcz40_1 : wc.cell? ⟨gb467, 1, none⟩ = some (.int .i64 t465) := (blk_cell BK467.out 1).trans rfl
    have hfz40_0 := blk_frozen BK467.out 0
    have hfz40_1 := blk_frozen BK467.out 1
    go_wp2
    go_ret
    exact ⟨er, lb⟩
   rw [if_pos c31] at H
   have c31b0 := be c31
   have c31b1 : (t470 != 0) = false := bne_eq_false_iff_eq.mpr c31
   clear c31
   by_cases c32 : t465 > 0
   rotate_left
   ·
    rw [if_neg c32] at H
    have c32b0 := decide_eq_false c32
    clear c32
    exact absurd ((Option.some.inj H).trans HR_.out) (by decide)
   rw [if_pos c32] at H
   have c32b0 := decide_eq_true c32
   clear c32
   by_cases c33 : (wrap64 (t464 * t469)) = (wrap64 (t468 * t465))
   rotate_left
   ·
    rw [if_neg c33] at H
    have c33b0 := bn c33
    have c33b1 : ((wrap64 (t464 * t469)) != (wrap64 (t468 * t465))) = true := bne_iff_ne.mpr c33
    exact absurd ((Option.some.inj H).trans HR_.out) (by decide)
   rw [if_pos c33] at H
   have c33b0 := be c33
   have c33b1 : ((wrap64 (t464 * t469)) != (wrap64 (t468 * t465))) = false := bne_eq_false_iff_eq.mpr c33
   clear c33
   replace H := Option.bind_eq_some_iff.mp H
   obtain ⟨t473, A340, H⟩ := H
   replace H : (some (t473 == 1)) = some r := H
   have A34 := ak A340
   clear A340
   obtain rfl := Option.some.inj H
   have hnb35 := NB467_461.out
   have hnc35 := NB461_467.out
   have hnb36 := NB467_462.out
   have hnc36 := NB462_467.out
   have hcz37_0 : wc.cell? ⟨gb467, 0, none⟩ = some (.int .i64 t464) := (blk_cell BK467.out 0).trans rfl
   have hcz37_1 : wc.cell? ⟨gb467, 1, none⟩ = some (.int .i64 t465) := (blk_cell BK467.out 1).trans rfl
   have hfz37_0 := blk_frozen BK467.out 0
   have hfz37_1 := blk_frozen BK467.out 1
   go_wp2_with (first | (go_at_call 41; (with_reducible refine (safeint_Gcd.calls kj7 t464 t465 t473 _ A34.out).mono ?_); rintro e w' ⟨rfl, ⟨nd, rfl⟩⟩))
   go_ret
   exact ⟨er, lb⟩
end Go.Proofs.Ytkdoihcjhccliaa.Q
