-- PRINTED by print.py (a twelfth state) out of the translation. Not trusted: Lean checks it.
import Derived.Test.YtkdoihcjhccliaaQ0
import Derived.Test.YtkdoihcjhccliaaQ13
import Derived.Test.YtkdoihcjhccliaaQ19
import Derived.Test.YtkdoihcjhccliaaQ29
import Derived.Test.YtkdoihcjhccliaaQ30
import Derived.Test.YtkdoihcjhccliaaQ31
namespace Go.Proofs.Ytkdoihcjhccliaa.Q
open Go.RowKit Go.Proofs.YtkdoihcjhccliaaW.PrintWords Go.Proofs.YtkdoihcjhccliaaW.PrintLast Go.Proofs.YtkdoihcjhccliaaW.PrintMore
attribute [local go_sem] max2_int min2_int max_two min_two max_three min_three max_four min_four   -- for this text's walks alone
set_option linter.unusedVariables false
set_option linter.unusedSimpArgs false

/-! ### compasslaw11_ProofPlans: function 6 -/
def compasslaw11_ProofPlans.f (k : Nat) (a0_0 : Int) (l0_1 : List (S98)) (l1_0 : List Int) (l1_1 : List Int) (l1_2 : List Int) (l2 : List Bool) : Option (Bool) := (compasslaw11_awake.f k).bind fun t403 => (if t403 = true then ((proof_Cheapest.f k a0_0 l0_1 l1_0 l1_1 l1_2).bind fun bt404 => ((compassref11_Cheapest.f k a0_0 l0_1 l1_0 l1_1 l1_2).bind fun bt406 => (if bt404.1 = bt406.1 then (if bt404.2 = bt406.2 then ((proof_NoPlan.f k a0_0 l0_1 l1_0 l2).bind fun t408 => ((compassref11_NoPlan.f k a0_0 l0_1 l1_0 l2).bind fun t409 => (some (t408 == t409)))) else (some false)) else (some false)))) else (some false))
def compasslaw11_ProofPlans.T5 : Bool × List (List Nat × List Nat) := (true, [([], []), ([], []), ([0, 1], [0, 1]), ([2], [2]), ([3], [3]), ([3], [3]), ([4, 5, 3], [3, 4, 5]), ([3, 6], [3, 6]), ([7, 3], [7]), ([8], [8]), ([8], [8]), ([10, 8], [8, 10]), ([8], [8]), ([9, 11, 12, 8, 8], [8, 9, 11, 12]), ([8], [8]), ([8], [8]), ([15, 8], [8, 15]), ([8], [8]), ([14, 16, 17, 13, 8], [8, 14, 16, 17]), ([13, 18, 8], [8, 13, 18]), ([8, 19], [8, 19]), ([20, 18, 0, 1, 2, 3, 4, 5, 6, 7, 8, 9, 10, 11, 12, 13, 14, 15, 16, 17, 18, 19, 20], [20])])
def compasslaw11_ProofPlans.B5 : List Nat := [0, 0, 3, 7, 15, 15, 63, 127, 255, 511, 511, 1535, 511, 8191, 511, 511, 33279, 511, 262143, 524287, 1048575, 2097151]
theorem compasslaw11_ProofPlans.tab5 : rtab .any (opsOf Try.f6 5) = compasslaw11_ProofPlans.T5 := by kernel_rfl
theorem compasslaw11_ProofPlans.bits5 : waitsOk compasslaw11_ProofPlans.T5.2 compasslaw11_ProofPlans.B5 = true := by kernel_rfl
set_option maxHeartbeats 8000000 in
set_option maxRecDepth 100000 in
theorem compasslaw11_ProofPlans.calls (k : Nat) (a0_0 : Int) (A0_1 : Option Addr) (c0_1 : Nat) (l0_1 : List (S98)) (A1_0 : Option Addr) (c1_0 : Nat) (l1_0 : List Int) (A1_1 : Option Addr) (c1_1 : Nat) (l1_1 : List Int) (A1_2 : Option Addr) (c1_2 : Nat) (l1_2 : List Int) (A2 : Option Addr) (c2 : Nat) (l2 : List Bool) (r : Bool) (w : World) (hr0_1 : Kd.C k98 w A0_1 l0_1.length l0_1) (hc0_1 : l0_1.length ≤ c0_1) (hr1_0 : Kd.C (Kd.int .i64) w A1_0 l1_0.length l1_0) (hc1_0 : l1_0.length ≤ c1_0) (hr1_1 : Kd.C (Kd.int .i64) w A1_1 l1_1.length l1_1) (hc1_1 : l1_1.length ≤ c1_1) (hr1_2 : Kd.C (Kd.int .i64) w A1_2 l1_2.length l1_2) (hc1_2 : l1_2.length ≤ c1_2) (hr2 : Kd.C Kd.bool w A2 l2.length l2) (hc2 : l2.length ≤ c2) (hr_ : r = true) (h : compasslaw11_ProofPlans.f k a0_0 l0_1 l1_0 l1_1 l1_2 l2 = some r) :
    Calls Try.prog 6 #[.agg #[.int .i64 a0_0, .slice A0_1 l0_1.length c0_1], .agg #[.slice A1_0 l1_0.length c1_0, .slice A1_1 l1_1.length c1_1, .slice A1_2 l1_2.length c1_2], .slice A2 l2.length c2] w fun e w' => e = .returned (.bool r) ∧ Below w.heap.size w w' := by
 have hu24 := Try.underlying24
 have hu44 := Try.underlying44
 have HR0_1 := ak hr0_1
 have HC0_1 := ak hc0_1
 clear hr0_1 hc0_1
 have HR1_0 := ak hr1_0
 have HC1_0 := ak hc1_0
 clear hr1_0 hc1_0
 have HR1_1 := ak hr1_1
 have HC1_1 := ak hc1_1
 clear hr1_1 hc1_1
 have HR1_2 := ak hr1_2
 have HC1_2 := ak hc1_2
 clear hr1_2 hc1_2
 have HR2 := ak hr2
 have HC2 := ak hc2
 clear hr2 hc2
 have HB := ak (Below.refl w.heap.size w)
 have HR_ := ak hr_
 clear hr_
 have H : ((compasslaw11_awake.f k).bind fun t403 => (if t403 = true then ((proof_Cheapest.f k a0_0 l0_1 l1_0 l1_1 l1_2).bind fun bt404 => ((compassref11_Cheapest.f k a0_0 l0_1 l1_0 l1_1 l1_2).bind fun bt406 => (if bt404.1 = bt406.1 then (if bt404.2 = bt406.2 then ((proof_NoPlan.f k a0_0 l0_1 l1_0 l2).bind fun t408 => ((compassref11_NoPlan.f k a0_0 l0_1 l1_0 l2).bind fun t409 => (some (t408 == t409)))) else (some false)) else (some false)))) else (some false))) = some r := h
 clear h
 replace H := Option.bind_eq_some_iff.mp H
 obtain ⟨t403, A40, H⟩ := H
 replace H : (if t403 = true then ((proof_Cheapest.f k a0_0 l0_1 l1_0 l1_1 l1_2).bind fun bt404 => ((compassref11_Cheapest.f k a0_0 l0_1 l1_0 l1_1 l1_2).bind fun bt406 => (if bt404.1 = bt406.1 then (if bt404.2 = bt406.2 then ((proof_NoPlan.f k a0_0 l0_1 l1_0 l2).bind fun t408 => ((compassref11_NoPlan.f k a0_0 l0_1 l1_0 l2).bind fun t409 => (some (t408 == t409)))) else (some false)) else (some false)))) else (some false)) = some r := H
 have A4 := ak A40
 clear A40
 by_cases c5 : t403 = true
 rotate_left
 ·
  replace c5 := Bool.eq_false_iff.mpr c5
  subst c5
  have H1 : (some false) = some r := by rw [if_neg (show ¬ (false = true) by decide)] at H; exact H
  clear H
  have H := H1
  clear H1
  exact absurd ((Option.some.inj H).trans HR_.out) (by decide)

 subst c5
 have H1 : ((proof_Cheapest.f k a0_0 l0_1 l1_0 l1_1 l1_2).bind fun bt404 => ((compassref11_Cheapest.f k a0_0 l0_1 l1_0 l1_1 l1_2).bind fun bt406 => (if bt404.1 = bt406.1 then (if bt404.2 = bt406.2 then ((proof_NoPlan.f k a0_0 l0_1 l1_0 l2).bind fun t408 => ((compassref11_NoPlan.f k a0_0 l0_1 l1_0 l2).bind fun t409 => (some (t408 == t409)))) else (some false)) else (some false)))) = some r := by rw [if_pos rfl] at H; exact H
 clear H
 have H := H1
 clear H1
 replace H := Option.bind_eq_some_iff.mp H
 obtain ⟨⟨t404, t405⟩, A60, H⟩ := H
 replace H : ((compassref11_Cheapest.f k a0_0 l0_1 l1_0 l1_1 l1_2).bind fun bt406 => (if t404 = bt406.1 then (if t405 = bt406.2 then ((proof_NoPlan.f k a0_0 l0_1 l1_0 l2).bind fun t408 => ((compassref11_NoPlan.f k a0_0 l0_1 l1_0 l2).bind fun t409 => (some (t408 == t409)))) else (some false)) else (some false))) = some r := H
 have A6 := ak A60
 clear A60
 replace H := Option.bind_eq_some_iff.mp H
 obtain ⟨⟨t406, t407⟩, A70, H⟩ := H
 replace H : (if t404 = t406 then (if t405 = t407 then ((proof_NoPlan.f k a0_0 l0_1 l1_0 l2).bind fun t408 => ((compassref11_NoPlan.f k a0_0 l0_1 l1_0 l2).bind fun t409 => (some (t408 == t409)))) else (some false)) else (some false)) = some r := H
 have A7 := ak A70
 clear A70
 by_cases c8 : t404 = t406
 rotate_left
 ·
  rw [if_neg c8] at H
  have c8b0 := bn c8
  have c8b1 : (t404 != t406) = true := bne_iff_ne.mpr c8
  exact absurd ((Option.some.inj H).trans HR_.out) (by decide)
 rw [if_pos c8] at H
 have c8b0 := be c8
 have c8b1 : (t404 != t406) = false := bne_eq_false_iff_eq.mpr c8
 clear c8
 by_cases c9 : t405 = t407
 rotate_left
 ·
  rw [if_neg c9] at H
  have c9b0 := bn c9
  have c9b1 : (t405 != t407) = true := bne_iff_ne.mpr c9
  exact absurd ((Option.some.inj H).trans HR_.out) (by decide)
 rw [if_pos c9] at H
 have c9b0 := be c9
 have c9b1 : (t405 != t407) = false := bne_eq_false_iff_eq.mpr c9
 clear c9
 replace H := Option.bind_eq_some_iff.mp H
 obtain ⟨t408, A100, H⟩ := H
 replace H : ((compassref11_NoPlan.f k a0_0 l0_1 l1_0 l2).bind fun t409 => (some (t408 == t409))) = some r := H
 have A10 := ak A100
 clear A100
 replace H := Option.bind_eq_some_iff.mp H
 obtain ⟨t409, A110, H⟩ := H
 replace H : (some (t408 == t409)) = some r := H
 have A11 := ak A110
 clear A110
 obtain rfl := Option.some.inj H
 go_enter Try.func6, Try.ntmps6
 try go_wp2_with (first | ((with_reducible refine gate_dst (N := 3) rfl ?_); refine bxe 3 #[.int .i64 a0_0, .slice A0_1 l0_1.length c0_1] 24 ?_; intro gb401 hg w12 hbox hb; have n0_ := ak (bl hb); have n1_ := ak (hbox); have n2_ := ak ((by rw [hg]; exact (below_size lb) : w.heap.size ≤ gb401)); have n3_ := ak ((by rw [hg]; exact (below_size lb) : w.heap.size ≤ gb401)); clear HB; have HB := n0_; have BK401 := n1_; have GW401 := n2_; have GE401 := n3_; clear n0_ n1_ n2_ n3_; clear hb hbox hg) | ((with_reducible refine gate_dst (N := 4) rfl ?_); refine bxe 4 #[.slice A1_0 l1_0.length c1_0, .slice A1_1 l1_1.length c1_1, .slice A1_2 l1_2.length c1_2] 44 ?_; intro gb402 hg w13 hbox hb; have n0_ := ak (bo BK401 hb); have n1_ := ak (bl hb); have n2_ := ak (hbox); have n3_ := ak ((by rw [hg]; exact (below_size lb) : w.heap.size ≤ gb402)); have n4_ := ak ((by rw [hg]; exact (below_size lb) : w.heap.size ≤ gb402)); have n5_ := ak ((by rw [hg]; exact Nat.ne_of_lt (blk_lt (g := gb401) (o := .cells #[.int .i64 a0_0, .slice A0_1 l0_1.length c0_1] 24 (0, 0)) (bx BK401.out)) : gb401 ≠ gb402)); have n6_ := ak ((by rw [hg]; exact Nat.ne_of_gt (blk_lt (g := gb401) (o := .cells #[.int .i64 a0_0, .slice A0_1 l0_1.length c0_1] 24 (0, 0)) (bx BK401.out)) : gb402 ≠ gb401)); clear BK401; clear HB; have BK401 := n0_; have HB := n1_; have BK402 := n2_; have GW402 := n3_; have GE402 := n4_; have NB401_402 := n5_; have NB402_401 := n6_; clear n0_ n1_ n2_ n3_ n4_ n5_ n6_; clear hb hbox hg) | ((with_reducible refine gate_callee (f := 15) rfl ?_); refine gl 11 Try.func15 #[] ?_; (with_reducible refine (compasslaw11_awake.calls k true _ rfl A4.out).mono ?_); rintro e w14 ⟨rfl, hb⟩; refine ⟨_, rfl, ?_⟩; have n0_ := ak (bo BK401 hb); have n1_ := ak (bo BK402 hb); have n2_ := ak (bl hb); clear BK401; clear BK402; clear HB; have BK401 := n0_; have BK402 := n1_; have HB := n2_; clear n0_ n1_ n2_; clear hb; have ⟨_, _⟩ := nn NB401_402; have hcz16_0 : w14.cell? ⟨gb401, 0, none⟩ = some (.int .i64 a0_0) := (blk_cell BK401.out 0).trans rfl; have hcz16_1 : w14.cell? ⟨gb401, 1, none⟩ = some (.slice A0_1 l0_1.length c0_1) := (blk_cell BK401.out 1).trans rfl; have hfz16_0 := blk_frozen BK401.out 0; have hfz16_1 := blk_frozen BK401.out 1; have hcz17_0 : w14.cell? ⟨gb402, 0, none⟩ = some (.slice A1_0 l1_0.length c1_0) := (blk_cell BK402.out 0).trans rfl; have hcz17_1 : w14.cell? ⟨gb402, 1, none⟩ = some (.slice A1_1 l1_1.length c1_1) := (blk_cell BK402.out 1).trans rfl; have hcz17_2 : w14.cell? ⟨gb402, 2, none⟩ = some (.slice A1_2 l1_2.length c1_2) := (blk_cell BK402.out 2).trans rfl; have hfz17_0 := blk_frozen BK402.out 0; have hfz17_1 := blk_frozen BK402.out 1; have hfz17_2 := blk_frozen BK402.out 2) | ((with_reducible refine gate_callee (f := 22) rfl ?_); refine gl 16 Try.func22 #[.agg #[.int .i64 a0_0, .slice A0_1 l0_1.length c0_1], .agg #[.slice A1_0 l1_0.length c1_0, .slice A1_1 l1_1.length c1_1, .slice A1_2 l1_2.length c1_2]] ?_; (with_reducible refine (proof_Cheapest.calls k a0_0 _ _ l0_1 _ _ l1_0 _ _ l1_1 _ _ l1_2 t404 t405 _ (Kd.C_below HR0_1.out lb) HC0_1.out (Kd.C_below HR1_0.out lb) HC1_0.out (Kd.C_below HR1_1.out lb) HC1_1.out (Kd.C_below HR1_2.out lb) HC1_2.out A6.out).mono ?_); rintro e w18 ⟨rfl, hb⟩; refine ⟨_, rfl, ?_⟩; have n0_ := ak (bo BK401 hb); have n1_ := ak (bo BK402 hb); have n2_ := ak (bl hb); clear BK401; clear BK402; clear HB; have BK401 := n0_; have BK402 := n1_; have HB := n2_; clear n0_ n1_ n2_; clear hb; have hcz19_0 : w18.cell? ⟨gb401, 0, none⟩ = some (.int .i64 a0_0) := (blk_cell BK401.out 0).trans rfl; have hcz19_1 : w18.cell? ⟨gb401, 1, none⟩ = some (.slice A0_1 l0_1.length c0_1) := (blk_cell BK401.out 1).trans rfl; have hfz19_0 := blk_frozen BK401.out 0; have hfz19_1 := blk_frozen BK401.out 1; have hcz20_0 : w18.cell? ⟨gb402, 0, none⟩ = some (.slice A1_0 l1_0.length c1_0) := (blk_cell BK402.out 0).trans rfl; have hcz20_1 : w18.cell? ⟨gb402, 1, none⟩ = some (.slice A1_1 l1_1.length c1_1) := (blk_cell BK402.out 1).trans rfl; have hcz20_2 : w18.cell? ⟨gb402, 2, none⟩ = some (.slice A1_2 l1_2.length c1_2) := (blk_cell BK402.out 2).trans rfl; have hfz20_0 := blk_frozen BK402.out 0; have hfz20_1 := blk_frozen BK402.out 1; have hfz20_2 := blk_frozen BK402.out 2) | ((with_reducible refine gate_callee (f := 23) rfl ?_); refine gl 27 Try.func23 #[.agg #[.int .i64 a0_0, .slice A0_1 l0_1.length c0_1], .slice A1_0 l1_0.length c1_0, .slice A1_1 l1_1.length c1_1, .slice A1_2 l1_2.length c1_2] ?_; (with_reducible refine (compassref11_Cheapest.calls k a0_0 _ _ l0_1 _ _ l1_0 _ _ l1_1 _ _ l1_2 t406 t407 _ (Kd.C_below HR0_1.out lb) HC0_1.out (Kd.C_below HR1_0.out lb) HC1_0.out (Kd.C_below HR1_1.out lb) HC1_1.out (Kd.C_below HR1_2.out lb) HC1_2.out A7.out).mono ?_); rintro e w21 ⟨rfl, hb⟩; refine ⟨_, rfl, ?_⟩; have n0_ := ak (bo BK401 hb); have n1_ := ak (bo BK402 hb); have n2_ := ak (bl hb); clear BK401; clear BK402; clear HB; have BK401 := n0_; have BK402 := n1_; have HB := n2_; clear n0_ n1_ n2_; clear hb))
 have n0_ := ak (blk_drew BK401.out)
 have n1_ := ak (blk_drew BK402.out)
 have n2_ := ak (below_drew1 HB.out)
 clear BK401
 clear BK402
 clear HB
 have BK401 := n0_
 have BK402 := n1_
 have HB := n2_
 clear n0_ n1_ n2_
 refine stC 22 [] (cX (bc0 BK401) (cX (bc1 BK401) (cX (bc0 BK402) (cX (bc1 BK402) (cY (bc2 BK402)))))) compasslaw11_ProofPlans.tab5 compasslaw11_ProofPlans.bits5 fun hHeld HT_ HW_ => ?_
 generalize w21.drew = w22 at BK401 BK402 HB hHeld ⊢
 refine pv HT_ 0 30 ?_; refine pv HT_ 1 31 ?_; refine pv HT_ 2 32 ?_; refine pv HT_ 3 33 ?_; refine pv HT_ 4 34 ?_; refine pv HT_ 5 35 ?_; refine pv HT_ 6 36 ?_; refine pv HT_ 7 37 ?_; refine pv HT_ 8 38 ?_; refine pv HT_ 10 40 ?_; refine pv HT_ 12 42 ?_; refine pv HT_ 15 45 ?_; refine pv HT_ 17 47 ?_; refine tv HT_ HW_ hHeld 9 39 ?_; refine tv HT_ HW_ hHeld 11 41 ?_; refine tv HT_ HW_ hHeld 14 44 ?_; refine tv HT_ HW_ hHeld 16 46 ?_
 refine one_ (i := 13) (N := some 43) #[true, true, true, true, true, true, true, true, true, true, true, true, true, true, true, true, true, true, false, false, false, false] rfl rfl (one_of HT_.out (by kernel_rfl)) (by decide) (fun K hK => ?_)
 refine goes_ Try.func24 (by kernel_rfl) rfl #[.agg #[.int .i64 a0_0, .slice A0_1 l0_1.length c0_1], .slice A1_0 l1_0.length c1_0, .slice A2 l2.length c2] (by rfl) rfl rfl (by (try simp only [List.map_toArray, List.map_cons, List.map_nil]); first | done | rfl | (simp only [List.length_drop, List.length_take]; rfl)) ?_
 with_reducible refine (proof_NoPlan.calls k a0_0 _ _ l0_1 _ _ l1_0 _ _ l2 t408 _ (Kd.C_below HR0_1.out lb) HC0_1.out (Kd.C_below HR1_0.out lb) HC1_0.out (Kd.C_below HR2.out lb) HC2.out A10.out).mono ?_
 rintro e w23 ⟨rfl, hb⟩
 refine ⟨_, rfl, ?_⟩
 have n0_ := ak (bo BK401 hb)
 have n1_ := ak (bo BK402 hb)
 have n2_ := ak (bl hb)
 clear BK401
 clear BK402
 clear HB
 have BK401 := n0_
 have BK402 := n1_
 have HB := n2_
 clear n0_ n1_ n2_
 (try clear hb)
 (try clear hb2)
 (try clear hk)
 (try clear hi)
 refine hK.out _ _ ⟨(blk_cell BK401.out 0).trans rfl, (blk_cell BK401.out 1).trans rfl, (blk_cell BK402.out 0).trans rfl, (blk_cell BK402.out 1).trans rfl, (blk_cell BK402.out 2).trans rfl⟩ (fun hHeld => ?_)
 clear hK K
 refine norm_ (a' := ?_) ?_ ?_
 rotate_left
 ·
  show Act.put _ (some 43) _ = _
  simp only [Act.put, List.setIfInBounds_toArray, List.set_cons_zero, List.set_cons_succ, i64_w, i32_w]
  rfl
 refine one_ (i := 18) (N := some 48) #[true, true, true, true, true, true, true, true, true, true, true, true, true, true, true, true, true, true, true, false, false, false] rfl rfl (one_of HT_.out (by kernel_rfl)) (by decide) (fun K hK => ?_)
 refine goes_ Try.func25 (by kernel_rfl) rfl #[.agg #[.int .i64 a0_0, .slice A0_1 l0_1.length c0_1], .slice A1_0 l1_0.length c1_0, .slice A2 l2.length c2] (by rfl) rfl rfl (by (try simp only [List.map_toArray, List.map_cons, List.map_nil]); first | done | rfl | (simp only [List.length_drop, List.length_take]; rfl)) ?_
 with_reducible refine (compassref11_NoPlan.calls k a0_0 _ _ l0_1 _ _ l1_0 _ _ l2 t409 _ (Kd.C_below HR0_1.out lb) HC0_1.out (Kd.C_below HR1_0.out lb) HC1_0.out (Kd.C_below HR2.out lb) HC2.out A11.out).mono ?_
 rintro e w24 ⟨rfl, hb⟩
 refine ⟨_, rfl, ?_⟩
 have n0_ := ak (bo BK401 hb)
 have n1_ := ak (bo BK402 hb)
 have n2_ := ak (bl hb)
 clear BK401
 clear BK402
 clear HB
 have BK401 := n0_
 have BK402 := n1_
 have HB := n2_
 clear n0_ n1_ n2_
 (try clear hb)
 (try clear hb2)
 (try clear hk)
 (try clear hi)
 refine hK.out _ _ ⟨(blk_cell BK401.out 0).trans rfl, (blk_cell BK401.out 1).trans rfl, (blk_cell BK402.out 0).trans rfl, (blk_cell BK402.out 1).trans rfl, (blk_cell BK402.out 2).trans rfl⟩ (fun hHeld => ?_)
 clear hK K
 refine norm_ (a' := ?_) ?_ ?_
 rotate_left
 ·
  show Act.put _ (some 48) _ = _
  simp only [Act.put, List.setIfInBounds_toArray, List.set_cons_zero, List.set_cons_succ, i64_w, i32_w]
  rfl
 refine pv HT_ 19 49 ?_; refine pv HT_ 20 50 ?_; refine pv HT_ 21 6 ?_
 refine done_ (done_of HT_.out (by kernel_rfl)) ?_
 try go_wp2
 go_ret
 exact ⟨er, lb⟩
/-! ### compassref04_Circle: function 45 -/
mutual
def compassref04_Circle.j0 : Nat → List Int → Bool → Int → List (S98) → Option (Bool)
  | 0, _, _, _, _ => none
  | k + 1, x1, x18, x411000, x411001 => if x18 = true then (some false) else (if 0 ≤ x411000 then (if (x411000 : Int).toNat ≤ 281474976710656 then (compassref04_Circle.l0 k x1 (List.replicate (x411000 : Int).toNat false) 0 x411000 x411001) else (none)) else (none))
def compassref04_Circle.l0 : Nat → List Int → List Bool → Int → Int → List (S98) → Option (Bool)
  | 0, _, _, _, _, _ => none
  | k + 1, x1, x5, x6, x411000, x411001 => if x6 < (x1.length : Int) then (if 0 ≤ x6 then (if (rd x1 x6) < 0 then (compassref04_Circle.j2 k x1 x5 x6 true x411000 x411001) else (compassref04_Circle.j2 k x1 x5 x6 (decide ((rd x1 x6) ≥ (x411001.length : Int))) x411000 x411001)) else (none)) else (some true)
def compassref04_Circle.j2 : Nat → List Int → List Bool → Int → Bool → Int → List (S98) → Option (Bool)
  | 0, _, _, _, _, _, _ => none
  | k + 1, x1, x5, x6, x42, x411000, x411001 => if x42 = true then (some false) else (if (x1.length : Int) = 0 then (none) else (if 0 ≤ (Int.tmod (wrap64 (x6 + 1)) (x1.length : Int)) then (if (Int.tmod (wrap64 (x6 + 1)) (x1.length : Int)) < (x1.length : Int) then (if (rd x1 (Int.tmod (wrap64 (x6 + 1)) (x1.length : Int))) < 0 then (some false) else (if (rd x1 (Int.tmod (wrap64 (x6 + 1)) (x1.length : Int))) ≥ (x411001.length : Int) then (some false) else (if 0 ≤ x6 then (if x6 < (x1.length : Int) then (if 0 ≤ (rd x1 x6) then (if (rd x1 x6) < (x411001.length : Int) then (if 0 ≤ (rd x1 (Int.tmod (wrap64 (x6 + 1)) (x1.length : Int))) then (if (rd x1 (Int.tmod (wrap64 (x6 + 1)) (x1.length : Int))) < (x411001.length : Int) then (if ((rd_T98 x411001 (rd x1 x6)).f1) = ((rd_T98 x411001 (rd x1 (Int.tmod (wrap64 (x6 + 1)) (x1.length : Int)))).f0) then (if 0 ≤ ((rd_T98 x411001 (rd x1 x6)).f1) then (if ((rd_T98 x411001 (rd x1 x6)).f1) < (x5.length : Int) then (if rdOf false x5 ((rd_T98 x411001 (rd x1 x6)).f1) = true then (some false) else (compassref04_Circle.l0 k x1 (x5.set (((rd_T98 x411001 (rd x1 x6)).f1) : Int).toNat true) (wrap64 (x6 + 1)) x411000 x411001)) else (none)) else (none)) else (some false)) else (none)) else (none)) else (none)) else (none)) else (none)) else (none)))) else (none)) else (none)))
end
def compassref04_Circle.f (k : Nat) (a0_0 : Int) (l0_1 : List (S98)) (l1 : List Int) : Option (Bool) := if (l1.length : Int) = 0 then (compassref04_Circle.j0 k l1 true a0_0 l0_1) else (compassref04_Circle.j0 k l1 (decide ((l1.length : Int) > (l0_1.length : Int))) a0_0 l0_1)
def compassref04_Circle.T7 : Bool × List (List Nat × List Nat) := (true, [([], []), ([], []), ([0, 1], [0, 1]), ([2], [2]), ([3], [3]), ([4], [4]), ([5], [5]), ([5], [5]), ([6, 7, 5], [5, 6, 7]), ([8, 5], [5, 8]), ([5], [5]), ([10, 5], [5, 10]), ([11, 5], [5, 11]), ([9, 12, 5], [5, 9, 12]), ([5, 13], [5, 13])])
def compassref04_Circle.B7 : List Nat := [0, 0, 3, 7, 15, 31, 63, 63, 255, 511, 63, 1087, 3135, 8191, 16383]
theorem compassref04_Circle.tab7 : rtab .any (opsOf Try.f45 7) = compassref04_Circle.T7 := by kernel_rfl
theorem compassref04_Circle.bits7 : waitsOk compassref04_Circle.T7.2 compassref04_Circle.B7 = true := by kernel_rfl
def compassref04_Circle.T10 : Bool × List (List Nat × List Nat) := (true, [([], []), ([0], [0]), ([1], [1]), ([2], [2]), ([2], [2]), ([4, 2], [2, 4]), ([5, 2], [2, 5]), ([3, 6, 2], [2, 3, 6]), ([2, 7], [2, 7]), ([8, 2], [8]), ([9], [9]), ([10, 9], [9, 10]), ([9], [9]), ([9], [9]), ([12, 13, 9], [9, 12, 13]), ([14, 9], [9, 14]), ([11, 15, 9], [9, 11, 15]), ([16, 9], [9, 16]), ([17, 9], [9, 17]), ([9], [9]), ([19, 9], [9, 19]), ([9], [9]), ([20, 21, 9], [9, 20, 21]), ([22, 9], [9, 22]), ([23, 9], [9, 23]), ([18, 24, 9], [9, 18, 24]), ([9, 25], [9, 25]), ([26, 9], [26]), ([27], [27]), ([27], [27]), ([29, 27], [27, 29]), ([27], [27]), ([27], [27]), ([31, 32, 27], [27, 31, 32]), ([33, 27], [27, 33]), ([30, 34, 27], [27, 30, 34]), ([35, 27], [27, 35]), ([36, 27], [27, 36]), ([28, 37, 27], [27, 28, 37]), ([38, 27], [27, 38]), ([27, 39], [27, 39])])
def compassref04_Circle.B10 : List Nat := [0, 1, 3, 7, 7, 23, 55, 127, 255, 511, 1023, 2047, 1023, 1023, 13311, 29695, 65535, 131071, 262143, 1023, 525311, 1023, 3671039, 7865343, 16253951, 33554431, 67108863, 134217727, 268435455, 268435455, 805306367, 268435455, 268435455, 6710886399, 15300820991, 34091302911, 68451041279, 137170518015, 274877906943, 549755813887, 1099511627775]
theorem compassref04_Circle.tab10 : rtab .any (opsOf Try.f45 10) = compassref04_Circle.T10 := by kernel_rfl
theorem compassref04_Circle.bits10 : waitsOk compassref04_Circle.T10.2 compassref04_Circle.B10 = true := by kernel_rfl
def compassref04_Circle.T12 : Bool × List (List Nat × List Nat) := (true, [([], []), ([], []), ([1], [1]), ([], []), ([], []), ([3, 4], [3, 4]), ([5], [5]), ([2, 6], [2, 6]), ([7], [7]), ([8], [8]), ([0, 9, 0, 1, 2, 3, 4, 5, 6, 7, 8, 9], [0, 9]), ([10, 0, 1, 2, 3, 4, 5, 6, 7, 8, 9], [10])])
def compassref04_Circle.B12 : List Nat := [0, 0, 2, 0, 0, 24, 56, 126, 254, 510, 1023, 2047]
theorem compassref04_Circle.tab12 : rtab .any (opsOf Try.f45 12) = compassref04_Circle.T12 := by kernel_rfl
theorem compassref04_Circle.bits12 : waitsOk compassref04_Circle.T12.2 compassref04_Circle.B12 = true := by kernel_rfl

end Go.Proofs.Ytkdoihcjhccliaa.Q
