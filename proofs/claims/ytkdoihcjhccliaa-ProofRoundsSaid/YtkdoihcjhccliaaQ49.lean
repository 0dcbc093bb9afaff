-- PRINTED by print.py (a twelfth state) out of the translation. Not trusted: Lean checks it.
import Derived.Test.YtkdoihcjhccliaaQ0
import Derived.Test.YtkdoihcjhccliaaQ9
import Derived.Test.YtkdoihcjhccliaaQ16
import Derived.Test.YtkdoihcjhccliaaQ19
import Derived.Test.YtkdoihcjhccliaaQ20
import Derived.Test.YtkdoihcjhccliaaQ22
import Derived.Test.YtkdoihcjhccliaaQ45
import Derived.Test.YtkdoihcjhccliaaQ47
import Derived.Test.YtkdoihcjhccliaaQ48
namespace Go.Proofs.Ytkdoihcjhccliaa.Q
open Go.RowKit Go.Proofs.YtkdoihcjhccliaaW.PrintWords Go.Proofs.YtkdoihcjhccliaaW.PrintLast Go.Proofs.YtkdoihcjhccliaaW.PrintMore
attribute [local go_sem] max2_int min2_int max_two min_two max_three min_three max_four min_four   -- for this text's walks alone
set_option linter.unusedVariables false
set_option linter.unusedSimpArgs false

/-! ### compasslaw11_ProofRounds: function 7 -/
def compasslaw11_ProofRounds.f (k : Nat) (a0_0 : Int) (l0_1 : List (S98)) (l1_0 : List Int) (l1_1 : List Int) (l2 : List Bool) : Option (Bool) := (compasslaw11_awake.f k).bind fun t548 => (if t548 = true then ((proof_Postman.f k a0_0 l0_1 l1_0 l1_1).bind fun bt549 => ((compassref11_Postman.f k a0_0 l0_1 l1_0 l1_1).bind fun bt551 => (if bt549.1 = bt551.1 then (if bt549.2 = bt551.2 then ((proof_Apart.f k a0_0 l0_1 l2).bind fun t553 => ((compassref11_Apart.f k a0_0 l0_1 l2).bind fun t554 => (some (t553 == t554)))) else (some false)) else (some false)))) else (some false))
def compasslaw11_ProofRounds.T5 : Bool × List (List Nat × List Nat) := (true, [([], []), ([], []), ([0, 1], [0, 1]), ([2], [2]), ([3], [3]), ([3], [3]), ([4, 5, 3], [3, 4, 5]), ([3, 6], [3, 6]), ([7, 3], [7]), ([8], [8]), ([8], [8]), ([9, 10, 8, 8], [8, 9, 10]), ([8], [8]), ([8], [8]), ([12, 13, 11, 8], [8, 12, 13]), ([11, 14, 8], [8, 11, 14]), ([8, 15], [8, 15]), ([16, 14, 0, 1, 2, 3, 4, 5, 6, 7, 8, 9, 10, 11, 12, 13, 14, 15, 16], [16])])
def compasslaw11_ProofRounds.B5 : List Nat := [0, 0, 3, 7, 15, 15, 63, 127, 255, 511, 511, 2047, 511, 511, 16383, 32767, 65535, 131071]
theorem compasslaw11_ProofRounds.tab5 : rtab .any (opsOf Try.f7 5) = compasslaw11_ProofRounds.T5 := by kernel_rfl
theorem compasslaw11_ProofRounds.bits5 : waitsOk compasslaw11_ProofRounds.T5.2 compasslaw11_ProofRounds.B5 = true := by kernel_rfl
set_option maxHeartbeats 8000000 in
set_option maxRecDepth 100000 in
theorem compasslaw11_ProofRounds.calls (k : Nat) (a0_0 : Int) (A0_1 : Option Addr) (c0_1 : Nat) (l0_1 : List (S98)) (A1_0 : Option Addr) (c1_0 : Nat) (l1_0 : List Int) (A1_1 : Option Addr) (c1_1 : Nat) (l1_1 : List Int) (A2 : Option Addr) (c2 : Nat) (l2 : List Bool) (r : Bool) (w : World) (hr0_1 : Kd.C k98 w A0_1 l0_1.length l0_1) (hc0_1 : l0_1.length ≤ c0_1) (hr1_0 : Kd.C (Kd.int .i64) w A1_0 l1_0.length l1_0) (hc1_0 : l1_0.length ≤ c1_0) (hr1_1 : Kd.C (Kd.int .i64) w A1_1 l1_1.length l1_1) (hc1_1 : l1_1.length ≤ c1_1) (hr2 : Kd.C Kd.bool w A2 l2.length l2) (hc2 : l2.length ≤ c2) (hr_ : r = true) (h : compasslaw11_ProofRounds.f k a0_0 l0_1 l1_0 l1_1 l2 = some r) :
    Calls Try.prog 7 #[.agg #[.int .i64 a0_0, .slice A0_1 l0_1.length c0_1], .agg #[.slice A1_0 l1_0.length c1_0, .slice A1_1 l1_1.length c1_1], .slice A2 l2.length c2] w fun e w' => e = .returned (.bool r) ∧ Below w.heap.size w w' := by
 have hu24 := Try.underlying24
 have hu51 := Try.underlying51
 have HR0_1 := ak hr0_1
 have HC0_1 := ak hc0_1
 clear hr0_1 hc0_1
 have HR1_0 := ak hr1_0
 have HC1_0 := ak hc1_0
 clear hr1_0 hc1_0
 have HR1_1 := ak hr1_1
 have HC1_1 := ak hc1_1
 clear hr1_1 hc1_1
 have HR2 := ak hr2
 have HC2 := ak hc2
 clear hr2 hc2
 have HB := ak (Below.refl w.heap.size w)
 have HR_ := ak hr_
 clear hr_
 have H : ((compasslaw11_awake.f k).bind fun t548 => (if t548 = true then ((proof_Postman.f k a0_0 l0_1 l1_0 l1_1).bind fun bt549 => ((compassref11_Postman.f k a0_0 l0_1 l1_0 l1_1).bind fun bt551 => (if bt549.1 = bt551.1 then (if bt549.2 = bt551.2 then ((proof_Apart.f k a0_0 l0_1 l2).bind fun t553 => ((compassref11_Apart.f k a0_0 l0_1 l2).bind fun t554 => (some (t553 == t554)))) else (some false)) else (some false)))) else (some false))) = some r := h
 clear h
 replace H := Option.bind_eq_some_iff.mp H
 obtain ⟨t548, A40, H⟩ := H
 replace H : (if t548 = true then ((proof_Postman.f k a0_0 l0_1 l1_0 l1_1).bind fun bt549 => ((compassref11_Postman.f k a0_0 l0_1 l1_0 l1_1).bind fun bt551 => (if bt549.1 = bt551.1 then (if bt549.2 = bt551.2 then ((proof_Apart.f k a0_0 l0_1 l2).bind fun t553 => ((compassref11_Apart.f k a0_0 l0_1 l2).bind fun t554 => (some (t553 == t554)))) else (some false)) else (some false)))) else (some false)) = some r := H
 have A4 := ak A40
 clear A40
 by_cases c5 : t548 = true
 rotate_left
 ·
  replace c5 := Bool.eq_false_iff.mpr c5
  subst c5
  have H1 : (some false) = some r := by rw [if_neg (show ¬ (false = true) by decide)] at H; exact H
  clear H
  have H := H1
  clear H1
  exact absurd ((Option.some.inj H).trans HR_.out) (by decide)

 subst c5
 have H1 : ((proof_Postman.f k a0_0 l0_1 l1_0 l1_1).bind fun bt549 => ((compassref11_Postman.f k a0_0 l0_1 l1_0 l1_1).bind fun bt551 => (if bt549.1 = bt551.1 then (if bt549.2 = bt551.2 then ((proof_Apart.f k a0_0 l0_1 l2).bind fun t553 => ((compassref11_Apart.f k a0_0 l0_1 l2).bind fun t554 => (some (t553 == t554)))) else (some false)) else (some false)))) = some r := by rw [if_pos rfl] at H; exact H
 clear H
 have H := H1
 clear H1
 replace H := Option.bind_eq_some_iff.mp H
 obtain ⟨⟨t549, t550⟩, A60, H⟩ := H
 replace H : ((compassref11_Postman.f k a0_0 l0_1 l1_0 l1_1).bind fun bt551 => (if t549 = bt551.1 then (if t550 = bt551.2 then ((proof_Apart.f k a0_0 l0_1 l2).bind fun t553 => ((compassref11_Apart.f k a0_0 l0_1 l2).bind fun t554 => (some (t553 == t554)))) else (some false)) else (some false))) = some r := H
 have A6 := ak A60
 clear A60
 replace H := Option.bind_eq_some_iff.mp H
 obtain ⟨⟨t551, t552⟩, A70, H⟩ := H
 replace H : (if t549 = t551 then (if t550 = t552 then ((proof_Apart.f k a0_0 l0_1 l2).bind fun t553 => ((compassref11_Apart.f k a0_0 l0_1 l2).bind fun t554 => (some (t553 == t554)))) else (some false)) else (some false)) = some r := H
 have A7 := ak A70
 clear A70
 by_cases c8 : t549 = t551
 rotate_left
 ·
  rw [if_neg c8] at H
  have c8b0 := bn c8
  have c8b1 : (t549 != t551) = true := bne_iff_ne.mpr c8
  exact absurd ((Option.some.inj H).trans HR_.out) (by decide)
 rw [if_pos c8] at H
 have c8b0 := be c8
 have c8b1 : (t549 != t551) = false := bne_eq_false_iff_eq.mpr c8
 clear c8
 by_cases c9 : t550 = t552
 rotate_left
 ·
  rw [if_neg c9] at H
  have c9b0 := bn c9
  have c9b1 : (t550 != t552) = true := bne_iff_ne.mpr c9
  exact absurd ((Option.some.inj H).trans HR_.out) (by decide)
 rw [if_pos c9] at H
 have c9b0 := be c9
 have c9b1 : (t550 != t552) = false := bne_eq_false_iff_eq.mpr c9
 clear c9
 replace H := Option.bind_eq_some_iff.mp H
 obtain ⟨t553, A100, H⟩ := H
 replace H : ((compassref11_Apart.f k a0_0 l0_1 l2).bind fun t554 => (some (t553 == t554))) = some r := H
 have A10 := ak A100
 clear A100
 replace H := Option.bind_eq_some_iff.mp H
 obtain ⟨t554, A110, H⟩ := H
 replace H : (some (t553 == t554)) = some r := H
 have A11 := ak A110
 clear A110
 obtain rfl := Option.some.inj H
 go_enter Try.func7, Try.ntmps7
 try go_wp2_with (first | ((with_reducible refine gate_dst (N := 3) rfl ?_); refine bxe 3 #[.int .i64 a0_0, .slice A0_1 l0_1.length c0_1] 24 ?_; intro gb546 hg w12 hbox hb; have n0_ := ak (bl hb); have n1_ := ak (hbox); have n2_ := ak ((by rw [hg]; exact (below_size lb) : w.heap.size ≤ gb546)); have n3_ := ak ((by rw [hg]; exact (below_size lb) : w.heap.size ≤ gb546)); clear HB; have HB := n0_; have BK546 := n1_; have GW546 := n2_; have GE546 := n3_; clear n0_ n1_ n2_ n3_; clear hb hbox hg) | ((with_reducible refine gate_dst (N := 4) rfl ?_); refine bxe 4 #[.slice A1_0 l1_0.length c1_0, .slice A1_1 l1_1.length c1_1] 51 ?_; intro gb547 hg w13 hbox hb; have n0_ := ak (bo BK546 hb); have n1_ := ak (bl hb); have n2_ := ak (hbox); have n3_ := ak ((by rw [hg]; exact (below_size lb) : w.heap.size ≤ gb547)); have n4_ := ak ((by rw [hg]; exact (below_size lb) : w.heap.size ≤ gb547)); have n5_ := ak ((by rw [hg]; exact Nat.ne_of_lt (blk_lt (g := gb546) (o := .cells #[.int .i64 a0_0, .slice A0_1 l0_1.length c0_1] 24 (0, 0)) (bx BK546.out)) : gb546 ≠ gb547)); have n6_ := ak ((by rw [hg]; exact Nat.ne_of_gt (blk_lt (g := gb546) (o := .cells #[.int .i64 a0_0, .slice A0_1 l0_1.length c0_1] 24 (0, 0)) (bx BK546.out)) : gb547 ≠ gb546)); clear BK546; clear HB; have BK546 := n0_; have HB := n1_; have BK547 := n2_; have GW547 := n3_; have GE547 := n4_; have NB546_547 := n5_; have NB547_546 := n6_; clear n0_ n1_ n2_ n3_ n4_ n5_ n6_; clear hb hbox hg) | ((with_reducible refine gate_callee (f := 15) rfl ?_); refine gl 11 Try.func15 #[] ?_; (with_reducible refine (compasslaw11_awake.calls k true _ rfl A4.out).mono ?_); rintro e w14 ⟨rfl, hb⟩; refine ⟨_, rfl, ?_⟩; have n0_ := ak (bo BK546 hb); have n1_ := ak (bo BK547 hb); have n2_ := ak (bl hb); clear BK546; clear BK547; clear HB; have BK546 := n0_; have BK547 := n1_; have HB := n2_; clear n0_ n1_ n2_; clear hb; have ⟨_, _⟩ := nn NB546_547; have hcz16_0 : w14.cell? ⟨gb546, 0, none⟩ = some (.int .i64 a0_0) := (blk_cell BK546.out 0).trans rfl; have hcz16_1 : w14.cell? ⟨gb546, 1, none⟩ = some (.slice A0_1 l0_1.length c0_1) := (blk_cell BK546.out 1).trans rfl; have hfz16_0 := blk_frozen BK546.out 0; have hfz16_1 := blk_frozen BK546.out 1; have hcz17_0 : w14.cell? ⟨gb547, 0, none⟩ = some (.slice A1_0 l1_0.length c1_0) := (blk_cell BK547.out 0).trans rfl; have hcz17_1 : w14.cell? ⟨gb547, 1, none⟩ = some (.slice A1_1 l1_1.length c1_1) := (blk_cell BK547.out 1).trans rfl; have hfz17_0 := blk_frozen BK547.out 0; have hfz17_1 := blk_frozen BK547.out 1) | ((with_reducible refine gate_callee (f := 26) rfl ?_); refine gl 16 Try.func26 #[.agg #[.int .i64 a0_0, .slice A0_1 l0_1.length c0_1], .agg #[.slice A1_0 l1_0.length c1_0, .slice A1_1 l1_1.length c1_1]] ?_; (with_reducible refine (proof_Postman.calls k a0_0 _ _ l0_1 _ _ l1_0 _ _ l1_1 t549 t550 _ (Kd.C_below HR0_1.out lb) HC0_1.out (Kd.C_below HR1_0.out lb) HC1_0.out (Kd.C_below HR1_1.out lb) HC1_1.out A6.out).mono ?_); rintro e w18 ⟨rfl, hb⟩; refine ⟨_, rfl, ?_⟩; have n0_ := ak (bo BK546 hb); have n1_ := ak (bo BK547 hb); have n2_ := ak (bl hb); clear BK546; clear BK547; clear HB; have BK546 := n0_; have BK547 := n1_; have HB := n2_; clear n0_ n1_ n2_; clear hb; have hcz19_0 : w18.cell? ⟨gb546, 0, none⟩ = some (.int .i64 a0_0) := (blk_cell BK546.out 0).trans rfl; have hcz19_1 : w18.cell? ⟨gb546, 1, none⟩ = some (.slice A0_1 l0_1.length c0_1) := (blk_cell BK546.out 1).trans rfl; have hfz19_0 := blk_frozen BK546.out 0; have hfz19_1 := blk_frozen BK546.out 1; have hcz20_0 : w18.cell? ⟨gb547, 0, none⟩ = some (.slice A1_0 l1_0.length c1_0) := (blk_cell BK547.out 0).trans rfl; have hcz20_1 : w18.cell? ⟨gb547, 1, none⟩ = some (.slice A1_1 l1_1.length c1_1) := (blk_cell BK547.out 1).trans rfl; have hfz20_0 := blk_frozen BK547.out 0; have hfz20_1 := blk_frozen BK547.out 1) | ((with_reducible refine gate_callee (f := 27) rfl ?_); refine gl 25 Try.func27 #[.agg #[.int .i64 a0_0, .slice A0_1 l0_1.length c0_1], .slice A1_0 l1_0.length c1_0, .slice A1_1 l1_1.length c1_1] ?_; (with_reducible refine (compassref11_Postman.calls k a0_0 _ _ l0_1 _ _ l1_0 _ _ l1_1 t551 t552 _ (Kd.C_below HR0_1.out lb) HC0_1.out (Kd.C_below HR1_0.out lb) HC1_0.out (Kd.C_below HR1_1.out lb) HC1_1.out A7.out).mono ?_); rintro e w21 ⟨rfl, hb⟩; refine ⟨_, rfl, ?_⟩; have n0_ := ak (bo BK546 hb); have n1_ := ak (bo BK547 hb); have n2_ := ak (bl hb); clear BK546; clear BK547; clear HB; have BK546 := n0_; have BK547 := n1_; have HB := n2_; clear n0_ n1_ n2_; clear hb))
 have n0_ := ak (blk_drew BK546.out)
 have n1_ := ak (blk_drew BK547.out)
 have n2_ := ak (below_drew1 HB.out)
 clear BK546
 clear BK547
 clear HB
 have BK546 := n0_
 have BK547 := n1_
 have HB := n2_
 clear n0_ n1_ n2_
 refine stC 18 [] (cX (bc0 BK546) (cY (bc1 BK546))) compasslaw11_ProofRounds.tab5 compasslaw11_ProofRounds.bits5 fun hHeld HT_ HW_ => ?_
 generalize w21.drew = w22 at BK546 BK547 HB hHeld ⊢
 refine pv HT_ 0 28 ?_; refine pv HT_ 1 29 ?_; refine pv HT_ 2 30 ?_; refine pv HT_ 3 31 ?_; refine pv HT_ 4 32 ?_; refine pv HT_ 5 33 ?_; refine pv HT_ 6 34 ?_; refine pv HT_ 7 35 ?_; refine pv HT_ 8 36 ?_; refine pv HT_ 10 38 ?_; refine pv HT_ 13 41 ?_; refine tv HT_ HW_ hHeld 9 37 ?_; refine tv HT_ HW_ hHeld 12 40 ?_
 refine one_ (i := 11) (N := some 39) #[true, true, true, true, true, true, true, true, true, true, true, true, true, true, false, false, false, false] rfl rfl (one_of HT_.out (by kernel_rfl)) (by decide) (fun K hK => ?_)
 refine goes_ Try.func28 (by kernel_rfl) rfl #[.agg #[.int .i64 a0_0, .slice A0_1 l0_1.length c0_1], .slice A2 l2.length c2] (by rfl) rfl rfl (by (try simp only [List.map_toArray, List.map_cons, List.map_nil]); first | done | rfl | (simp only [List.length_drop, List.length_take]; rfl)) ?_
 with_reducible refine (proof_Apart.calls k a0_0 _ _ l0_1 _ _ l2 t553 _ (Kd.C_below HR0_1.out lb) HC0_1.out (Kd.C_below HR2.out lb) HC2.out A10.out).mono ?_
 rintro e w23 ⟨rfl, hb⟩
 refine ⟨_, rfl, ?_⟩
 have n0_ := ak (bo BK546 hb)
 have n1_ := ak (bo BK547 hb)
 have n2_ := ak (bl hb)
 clear BK546
 clear BK547
 clear HB
 have BK546 := n0_
 have BK547 := n1_
 have HB := n2_
 clear n0_ n1_ n2_
 (try clear hb)
 (try clear hb2)
 (try clear hk)
 (try clear hi)
 refine hK.out _ _ ⟨(blk_cell BK546.out 0).trans rfl, (blk_cell BK546.out 1).trans rfl⟩ (fun hHeld => ?_)
 clear hK K
 refine norm_ (a' := ?_) ?_ ?_
 rotate_left
 ·
  show Act.put _ (some 39) _ = _
  simp only [Act.put, List.setIfInBounds_toArray, List.set_cons_zero, List.set_cons_succ, i64_w, i32_w]
  rfl
 refine one_ (i := 14) (N := some 42) #[true, true, true, true, true, true, true, true, true, true, true, true, true, true, true, false, false, false] rfl rfl (one_of HT_.out (by kernel_rfl)) (by decide) (fun K hK => ?_)
 refine goes_ Try.func29 (by kernel_rfl) rfl #[.agg #[.int .i64 a0_0, .slice A0_1 l0_1.length c0_1], .slice A2 l2.length c2] (by rfl) rfl rfl (by (try simp only [List.map_toArray, List.map_cons, List.map_nil]); first | done | rfl | (simp only [List.length_drop, List.length_take]; rfl)) ?_
 with_reducible refine (compassref11_Apart.calls k a0_0 _ _ l0_1 _ _ l2 t554 _ (Kd.C_below HR0_1.out lb) HC0_1.out (Kd.C_below HR2.out lb) HC2.out A11.out).mono ?_
 rintro e w24 ⟨rfl, hb⟩
 refine ⟨_, rfl, ?_⟩
 have n0_ := ak (bo BK546 hb)
 have n1_ := ak (bo BK547 hb)
 have n2_ := ak (bl hb)
 clear BK546
 clear BK547
 clear HB
 have BK546 := n0_
 have BK547 := n1_
 have HB := n2_
 clear n0_ n1_ n2_
 (try clear hb)
 (try clear hb2)
 (try clear hk)
 (try clear hi)
 refine hK.out _ _ ⟨(blk_cell BK546.out 0).trans rfl, (blk_cell BK546.out 1).trans rfl⟩ (fun hHeld => ?_)
 clear hK K
 refine norm_ (a' := ?_) ?_ ?_
 rotate_left
 ·
  show Act.put _ (some 42) _ = _
  simp only [Act.put, List.setIfInBounds_toArray, List.set_cons_zero, List.set_cons_succ, i64_w, i32_w]
  rfl
 refine pv HT_ 15 43 ?_; refine pv HT_ 16 44 ?_; refine pv HT_ 17 6 ?_
 refine done_ (done_of HT_.out (by kernel_rfl)) ?_
 try go_wp2
 go_ret
 exact ⟨er, lb⟩
/-! ### compasslaw11_ProofFlowSound: function 4 -/
def compasslaw11_ProofFlowSound.f (k : Nat) (a0_0 : Int) (l0_1 : List (S98)) (a1_0 : Int) (a1_1 : Int) (l1_2 : List Int) (l1_3 : List Bool) (l2 : List Int) : Option (Bool) := (compasslaw11_awake.f k).bind fun t557 => (if t557 = true then ((proof_Max.f k a0_0 l0_1 a1_0 a1_1 l1_2 l1_3).bind fun bt558 => (if bt558.2 = 0 then (if (l2.length : Int) = (l0_1.length : Int) then ((compassref11_Out.f k a0_0 l0_1 l2 a1_0).bind fun t560 => ((compassref11_Flows.f k a0_0 l0_1 a1_0 a1_1 l2 t560).bind fun t561 => (if t561 = true then (some (decide (t560 ≤ bt558.1))) else (some true)))) else (some true)) else (some (bt558.1 == 0)))) else (some false))
set_option maxHeartbeats 8000000 in
set_option maxRecDepth 100000 in
theorem compasslaw11_ProofFlowSound.calls (k : Nat) (a0_0 : Int) (A0_1 : Option Addr) (c0_1 : Nat) (l0_1 : List (S98)) (a1_0 : Int) (a1_1 : Int) (A1_2 : Option Addr) (c1_2 : Nat) (l1_2 : List Int) (A1_3 : Option Addr) (c1_3 : Nat) (l1_3 : List Bool) (A2 : Option Addr) (c2 : Nat) (l2 : List Int) (r : Bool) (w : World) (hr0_1 : Kd.C k98 w A0_1 l0_1.length l0_1) (hc0_1 : l0_1.length ≤ c0_1) (hr1_2 : Kd.C (Kd.int .i64) w A1_2 l1_2.length l1_2) (hc1_2 : l1_2.length ≤ c1_2) (hr1_3 : Kd.C Kd.bool w A1_3 l1_3.length l1_3) (hc1_3 : l1_3.length ≤ c1_3) (hr2 : Kd.C (Kd.int .i64) w A2 l2.length l2) (hc2 : l2.length ≤ c2) (hr_ : r = true) (h : compasslaw11_ProofFlowSound.f k a0_0 l0_1 a1_0 a1_1 l1_2 l1_3 l2 = some r) :
    Calls Try.prog 4 #[.agg #[.int .i64 a0_0, .slice A0_1 l0_1.length c0_1], .agg #[.int .i64 a1_0, .int .i64 a1_1, .slice A1_2 l1_2.length c1_2, .slice A1_3 l1_3.length c1_3], .slice A2 l2.length c2] w fun e w' => e = .returned (.bool r) ∧ Below w.heap.size w w' := by
 have hu24 := Try.underlying24
 have hu28 := Try.underlying28
 have HR0_1 := ak hr0_1
 have HC0_1 := ak hc0_1
 clear hr0_1 hc0_1
 have HR1_2 := ak hr1_2
 have HC1_2 := ak hc1_2
 clear hr1_2 hc1_2
 have HR1_3 := ak hr1_3
 have HC1_3 := ak hc1_3
 clear hr1_3 hc1_3
 have HR2 := ak hr2
 have HC2 := ak hc2
 clear hr2 hc2
 have HB := ak (Below.refl w.heap.size w)
 have HR_ := ak hr_
 clear hr_
 have H : ((compasslaw11_awake.f k).bind fun t557 => (if t557 = true then ((proof_Max.f k a0_0 l0_1 a1_0 a1_1 l1_2 l1_3).bind fun bt558 => (if bt558.2 = 0 then (if (l2.length : Int) = (l0_1.length : Int) then ((compassref11_Out.f k a0_0 l0_1 l2 a1_0).bind fun t560 => ((compassref11_Flows.f k a0_0 l0_1 a1_0 a1_1 l2 t560).bind fun t561 => (if t561 = true then (some (decide (t560 ≤ bt558.1))) else (some true)))) else (some true)) else (some (bt558.1 == 0)))) else (some false))) = some r := h
 clear h
 replace H := Option.bind_eq_some_iff.mp H
 obtain ⟨t557, A40, H⟩ := H
 replace H : (if t557 = true then ((proof_Max.f k a0_0 l0_1 a1_0 a1_1 l1_2 l1_3).bind fun bt558 => (if bt558.2 = 0 then (if (l2.length : Int) = (l0_1.length : Int) then ((compassref11_Out.f k a0_0 l0_1 l2 a1_0).bind fun t560 => ((compassref11_Flows.f k a0_0 l0_1 a1_0 a1_1 l2 t560).bind fun t561 => (if t561 = true then (some (decide (t560 ≤ bt558.1))) else (some true)))) else (some true)) else (some (bt558.1 == 0)))) else (some false)) = some r := H
 have A4 := ak A40
 clear A40
 by_cases c5 : t557 = true
 rotate_left
 ·
  replace c5 := Bool.eq_false_iff.mpr c5
  subst c5
  have H1 : (some false) = some r := by rw [if_neg (show ¬ (false = true) by decide)] at H; exact H
  clear H
  have H := H1
  clear H1
  exact absurd ((Option.some.inj H).trans HR_.out) (by decide)

 subst c5
 have H1 : ((proof_Max.f k a0_0 l0_1 a1_0 a1_1 l1_2 l1_3).bind fun bt558 => (if bt558.2 = 0 then (if (l2.length : Int) = (l0_1.length : Int) then ((compassref11_Out.f k a0_0 l0_1 l2 a1_0).bind fun t560 => ((compassref11_Flows.f k a0_0 l0_1 a1_0 a1_1 l2 t560).bind fun t561 => (if t561 = true then (some (decide (t560 ≤ bt558.1))) else (some true)))) else (some true)) else (some (bt558.1 == 0)))) = some r := by rw [if_pos rfl] at H; exact H
 clear H
 have H := H1
 clear H1
 replace H := Option.bind_eq_some_iff.mp H
 obtain ⟨⟨t558, t559⟩, A60, H⟩ := H
 replace H : (if t559 = 0 then (if (l2.length : Int) = (l0_1.length : Int) then ((compassref11_Out.f k a0_0 l0_1 l2 a1_0).bind fun t560 => ((compassref11_Flows.f k a0_0 l0_1 a1_0 a1_1 l2 t560).bind fun t561 => (if t561 = true then (some (decide (t560 ≤ t558))) else (some true)))) else (some true)) else (some (t558 == 0))) = some r := H
 have A6 := ak A60
 clear A60
 by_cases c7 : t559 = 0
 rotate_left
 ·
  rw [if_neg c7] at H
  have c7b0 := bn c7
  have c7b1 : (t559 != 0) = true := bne_iff_ne.mpr c7
  obtain rfl := Option.some.inj H
  go_enter Try.func4, Try.ntmps4
  go_wp2_with (first | ((with_reducible refine gate_dst (N := 3) rfl ?_); refine bxe 3 #[.int .i64 a0_0, .slice A0_1 l0_1.length c0_1] 24 ?_; intro gb555 hg w46 hbox hb; have n0_ := ak (bl hb); have n1_ := ak (hbox); have n2_ := ak ((by rw [hg]; exact (below_size lb) : w.heap.size ≤ gb555)); have n3_ := ak ((by rw [hg]; exact (below_size lb) : w.heap.size ≤ gb555)); clear HB; have HB := n0_; have BK555 := n1_; have GW555 := n2_; have GE555 := n3_; clear n0_ n1_ n2_ n3_; clear hb hbox hg) | ((with_reducible refine gate_dst (N := 4) rfl ?_); refine bxe 4 #[.int .i64 a1_0, .int .i64 a1_1, .slice A1_2 l1_2.length c1_2, .slice A1_3 l1_3.length c1_3] 28 ?_; intro gb556 hg w47 hbox hb; have n0_ := ak (bo BK555 hb); have n1_ := ak (bl hb); have n2_ := ak (hbox); have n3_ := ak ((by rw [hg]; exact (below_size lb) : w.heap.size ≤ gb556)); have n4_ := ak ((by rw [hg]; exact (below_size lb) : w.heap.size ≤ gb556)); have n5_ := ak ((by rw [hg]; exact Nat.ne_of_lt (blk_lt (g := gb555) (o := .cells #[.int .i64 a0_0, .slice A0_1 l0_1.length c0_1] 24 (0, 0)) (bx BK555.out)) : gb555 ≠ gb556)); have n6_ := ak ((by rw [hg]; exact Nat.ne_of_gt (blk_lt (g := gb555) (o := .cells #[.int .i64 a0_0, .slice A0_1 l0_1.length c0_1] 24 (0, 0)) (bx BK555.out)) : gb556 ≠ gb555)); clear BK555; clear HB; have BK555 := n0_; have HB := n1_; have BK556 := n2_; have GW556 := n3_; have GE556 := n4_; have NB555_556 := n5_; have NB556_555 := n6_; clear n0_ n1_ n2_ n3_ n4_ n5_ n6_; clear hb hbox hg) | ((with_reducible refine gate_callee (f := 15) rfl ?_); refine gl 10 Try.func15 #[] ?_; (with_reducible refine (compasslaw11_awake.calls k true _ rfl A4.out).mono ?_); rintro e w48 ⟨rfl, hb⟩; refine ⟨_, rfl, ?_⟩; have n0_ := ak (bo BK555 hb); have n1_ := ak (bo BK556 hb); have n2_ := ak (bl hb); clear BK555; clear BK556; clear HB; have BK555 := n0_; have BK556 := n1_; have HB := n2_; clear n0_ n1_ n2_; clear hb; have ⟨_, _⟩ := nn NB555_556; have hcz50_0 : w48.cell? ⟨gb555, 0, none⟩ = some (.int .i64 a0_0) := (blk_cell BK555.out 0).trans rfl; have hcz50_1 : w48.cell? ⟨gb555, 1, none⟩ = some (.slice A0_1 l0_1.length c0_1) := (blk_cell BK555.out 1).trans rfl; have hfz50_0 := blk_frozen BK555.out 0; have hfz50_1 := blk_frozen BK555.out 1; have hcz51_0 : w48.cell? ⟨gb556, 0, none⟩ = some (.int .i64 a1_0) := (blk_cell BK556.out 0).trans rfl; have hcz51_1 : w48.cell? ⟨gb556, 1, none⟩ = some (.int .i64 a1_1) := (blk_cell BK556.out 1).trans rfl; have hcz51_2 : w48.cell? ⟨gb556, 2, none⟩ = some (.slice A1_2 l1_2.length c1_2) := (blk_cell BK556.out 2).trans rfl; have hcz51_3 : w48.cell? ⟨gb556, 3, none⟩ = some (.slice A1_3 l1_3.length c1_3) := (blk_cell BK556.out 3).trans rfl; have hfz51_0 := blk_frozen BK556.out 0; have hfz51_1 := blk_frozen BK556.out 1; have hfz51_2 := blk_frozen BK556.out 2; have hfz51_3 := blk_frozen BK556.out 3) | ((with_reducible refine gate_callee (f := 16) rfl ?_); refine gl 15 Try.func16 #[.agg #[.int .i64 a0_0, .slice A0_1 l0_1.length c0_1], .agg #[.int .i64 a1_0, .int .i64 a1_1, .slice A1_2 l1_2.length c1_2, .slice A1_3 l1_3.length c1_3]] ?_; (with_reducible refine (proof_Max.calls k a0_0 _ _ l0_1 a1_0 a1_1 _ _ l1_2 _ _ l1_3 t558 t559 _ (Kd.C_below HR0_1.out lb) HC0_1.out (Kd.C_below HR1_2.out lb) HC1_2.out (Kd.C_below HR1_3.out lb) HC1_3.out A6.out).mono ?_); rintro e w52 ⟨rfl, hb⟩; refine ⟨_, rfl, ?_⟩; have n0_ := ak (bo BK555 hb); have n1_ := ak (bo BK556 hb); have n2_ := ak (bl hb); clear BK555; clear BK556; clear HB; have BK555 := n0_; have BK556 := n1_; have HB := n2_; clear n0_ n1_ n2_; clear hb))
  go_ret
  exact ⟨er, lb⟩
 rw [if_pos c7] at H
 have c7b0 := be c7
 have c7b1 : (t559 != 0) = false := bne_eq_false_iff_eq.mpr c7
 clear c7
 by_cases c8 : (l2.length : Int) = (l0_1.length : Int)
 rotate_left
 ·
  rw [if_neg c8] at H
  have c8b0 := bn c8
  have c8b1 : ((l2.length : Int) != (l0_1.length : Int)) = true := bne_iff_ne.mpr c8
  have c8b2 : (l2.length == l0_1.length) = false := by first | simpa using c8 | (simp at c8 ⊢; omega)
  obtain rfl := Option.some.inj H
  go_enter Try.func4, Try.ntmps4
  go_wp2_with (first | ((with_reducible refine gate_dst (N := 3) rfl ?_); refine bxe 3 #[.int .i64 a0_0, .slice A0_1 l0_1.length c0_1] 24 ?_; intro gb555 hg w38 hbox hb; have n0_ := ak (bl hb); have n1_ := ak (hbox); have n2_ := ak ((by rw [hg]; exact (below_size lb) : w.heap.size ≤ gb555)); have n3_ := ak ((by rw [hg]; exact (below_size lb) : w.heap.size ≤ gb555)); clear HB; have HB := n0_; have BK555 := n1_; have GW555 := n2_; have GE555 := n3_; clear n0_ n1_ n2_ n3_; clear hb hbox hg) | ((with_reducible refine gate_dst (N := 4) rfl ?_); refine bxe 4 #[.int .i64 a1_0, .int .i64 a1_1, .slice A1_2 l1_2.length c1_2, .slice A1_3 l1_3.length c1_3] 28 ?_; intro gb556 hg w39 hbox hb; have n0_ := ak (bo BK555 hb); have n1_ := ak (bl hb); have n2_ := ak (hbox); have n3_ := ak ((by rw [hg]; exact (below_size lb) : w.heap.size ≤ gb556)); have n4_ := ak ((by rw [hg]; exact (below_size lb) : w.heap.size ≤ gb556)); have n5_ := ak ((by rw [hg]; exact Nat.ne_of_lt (blk_lt (g := gb555) (o := .cells #[.int .i64 a0_0, .slice A0_1 l0_1.length c0_1] 24 (0, 0)) (bx BK555.out)) : gb555 ≠ gb556)); have n6_ := ak ((by rw [hg]; exact Nat.ne_of_gt (blk_lt (g := gb555) (o := .cells #[.int .i64 a0_0, .slice A0_1 l0_1.length c0_1] 24 (0, 0)) (bx BK555.out)) : gb556 ≠ gb555)); clear BK555; clear HB; have BK555 := n0_; have HB := n1_; have BK556 := n2_; have GW556 := n3_; have GE556 := n4_; have NB555_556 := n5_; have NB556_555 := n6_; clear n0_ n1_ n2_ n3_ n4_ n5_ n6_; clear hb hbox hg) | ((with_reducible refine gate_callee (f := 15) rfl ?_); refine gl 10 Try.func15 #[] ?_; (with_reducible refine (compasslaw11_awake.calls k true _ rfl A4.out).mono ?_); rintro e w40 ⟨rfl, hb⟩; refine ⟨_, rfl, ?_⟩; have n0_ := ak (bo BK555 hb); have n1_ := ak (bo BK556 hb); have n2_ := ak (bl hb); clear BK555; clear BK556; clear HB; have BK555 := n0_; have BK556 := n1_; have HB := n2_; clear n0_ n1_ n2_; clear hb; have ⟨_, _⟩ := nn NB555_556; have hcz42_0 : w40.cell? ⟨gb555, 0, none⟩ = some (.int .i64 a0_0) := (blk_cell BK555.out 0).trans rfl; have hcz42_1 : w40.cell? ⟨gb555, 1, none⟩ = some (.slice A0_1 l0_1.length c0_1) := (blk_cell BK555.out 1).trans rfl; have hfz42_0 := blk_frozen BK555.out 0; have hfz42_1 := blk_frozen BK555.out 1; have hcz43_0 : w40.cell? ⟨gb556, 0, none⟩ = some (.int .i64 a1_0) := (blk_cell BK556.out 0).trans rfl; have hcz43_1 : w40.cell? ⟨gb556, 1, none⟩ = some (.int .i64 a1_1) := (blk_cell BK556.out 1).trans rfl; have hcz43_2 : w40.cell? ⟨gb556, 2, none⟩ = some (.slice A1_2 l1_2.length c1_2) := (blk_cell BK556.out 2).trans rfl; have hcz43_3 : w40.cell? ⟨gb556, 3, none⟩ = some (.slice A1_3 l1_3.length c1_3) := (blk_cell BK556.out 3).trans rfl; have hfz43_0 := blk_frozen BK556.out 0; have hfz43_1 := blk_frozen BK556.out 1; have hfz43_2 := blk_frozen BK556.out 2; have hfz43_3 := blk_frozen BK556.out 3) | ((with_reducible refine gate_callee (f := 16) rfl ?_); refine gl 15 Try.func16 #[.agg #[.int .i64 a0_0, .slice A0_1 l0_1.length c0_1], .agg #[.int .i64 a1_0, .int .i64 a1_1, .slice A1_2 l1_2.length c1_2, .slice A1_3 l1_3.length c1_3]] ?_; (with_reducible refine (proof_Max.calls k a0_0 _ _ l0_1 a1_0 a1_1 _ _ l1_2 _ _ l1_3 t558 t559 _ (Kd.C_below HR0_1.out lb) HC0_1.out (Kd.C_below HR1_2.out lb) HC1_2.out (Kd.C_below HR1_3.out lb) HC1_3.out A6.out).mono ?_); rintro e w44 ⟨rfl, hb⟩; refine ⟨_, rfl, ?_⟩; have n0_ := ak (bo BK555 hb); have n1_ := ak (bo BK556 hb); have n2_ := ak (bl hb); clear BK555; clear BK556; clear HB; have BK555 := n0_; have BK556 := n1_; have HB := n2_; clear n0_ n1_ n2_; clear hb; have hcz45_0 : w44.cell? ⟨gb555, 0, none⟩ = some (.int .i64 a0_0) := (blk_cell BK555.out 0).trans rfl; have hcz45_1 : w44.cell? ⟨gb555, 1, none⟩ = some (.slice A0_1 l0_1.length c0_1) := (blk_cell BK555.out 1).trans rfl; have hfz45_0 := blk_frozen BK555.out 0; have hfz45_1 := blk_frozen BK555.out 1))
  go_ret
  exact ⟨er, lb⟩
 rw [if_pos c8] at H
 have c8b0 := be c8
 have c8b1 : ((l2.length : Int) != (l0_1.length : Int)) = false := bne_eq_false_iff_eq.mpr c8
 have c8b2 : (l2.length == l0_1.length) = true := by first | simpa using c8 | (simp at c8 ⊢; omega)
 clear c8
 replace H := Option.bind_eq_some_iff.mp H
 obtain ⟨t560, A90, H⟩ := H
 replace H : ((compassref11_Flows.f k a0_0 l0_1 a1_0 a1_1 l2 t560).bind fun t561 => (if t561 = true then (some (decide (t560 ≤ t558))) else (some true))) = some r := H
 have A9 := ak A90
 clear A90
 replace H := Option.bind_eq_some_iff.mp H
 obtain ⟨t561, A100, H⟩ := H
 replace H : (if t561 = true then (some (decide (t560 ≤ t558))) else (some true)) = some r := H
 have A10 := ak A100
 clear A100
 by_cases c11 : t561 = true
 ·
  subst c11
  have H1 : (some (decide (t560 ≤ t558))) = some r := by rw [if_pos rfl] at H; exact H
  clear H
  have H := H1
  clear H1
  obtain rfl := Option.some.inj H
  go_enter Try.func4, Try.ntmps4
  go_wp2_with (first | ((with_reducible refine gate_dst (N := 3) rfl ?_); refine bxe 3 #[.int .i64 a0_0, .slice A0_1 l0_1.length c0_1] 24 ?_; intro gb555 hg w12 hbox hb; have n0_ := ak (bl hb); have n1_ := ak (hbox); have n2_ := ak ((by rw [hg]; exact (below_size lb) : w.heap.size ≤ gb555)); have n3_ := ak ((by rw [hg]; exact (below_size lb) : w.heap.size ≤ gb555)); clear HB; have HB := n0_; have BK555 := n1_; have GW555 := n2_; have GE555 := n3_; clear n0_ n1_ n2_ n3_; clear hb hbox hg) | ((with_reducible refine gate_dst (N := 4) rfl ?_); refine bxe 4 #[.int .i64 a1_0, .int .i64 a1_1, .slice A1_2 l1_2.length c1_2, .slice A1_3 l1_3.length c1_3] 28 ?_; intro gb556 hg w13 hbox hb; have n0_ := ak (bo BK555 hb); have n1_ := ak (bl hb); have n2_ := ak (hbox); have n3_ := ak ((by rw [hg]; exact (below_size lb) : w.heap.size ≤ gb556)); have n4_ := ak ((by rw [hg]; exact (below_size lb) : w.heap.size ≤ gb556)); have n5_ := ak ((by rw [hg]; exact Nat.ne_of_lt (blk_lt (g := gb555) (o := .cells #[.int .i64 a0_0, .slice A0_1 l0_1.length c0_1] 24 (0, 0)) (bx BK555.out)) : gb555 ≠ gb556)); have n6_ := ak ((by rw [hg]; exact Nat.ne_of_gt (blk_lt (g := gb555) (o := .cells #[.int .i64 a0_0, .slice A0_1 l0_1.length c0_1] 24 (0, 0)) (bx BK555.out)) : gb556 ≠ gb555)); clear BK555; clear HB; have BK555 := n0_; have HB := n1_; have BK556 := n2_; have GW556 := n3_; have GE556 := n4_; have NB555_556 := n5_; have NB556_555 := n6_; clear n0_ n1_ n2_ n3_ n4_ n5_ n6_; clear hb hbox hg) | ((with_reducible refine gate_callee (f := 15) rfl ?_); refine gl 10 Try.func15 #[] ?_; (with_reducible refine (compasslaw11_awake.calls k true _ rfl A4.out).mono ?_); rintro e w14 ⟨rfl, hb⟩; refine ⟨_, rfl, ?_⟩; have n0_ := ak (bo BK555 hb); have n1_ := ak (bo BK556 hb); have n2_ := ak (bl hb); clear BK555; clear BK556; clear HB; have BK555 := n0_; have BK556 := n1_; have HB := n2_; clear n0_ n1_ n2_; clear hb; have ⟨_, _⟩ := nn NB555_556; have hcz16_0 : w14.cell? ⟨gb555, 0, none⟩ = some (.int .i64 a0_0) := (blk_cell BK555.out 0).trans rfl; have hcz16_1 : w14.cell? ⟨gb555, 1, none⟩ = some (.slice A0_1 l0_1.length c0_1) := (blk_cell BK555.out 1).trans rfl; have hfz16_0 := blk_frozen BK555.out 0; have hfz16_1 := blk_frozen BK555.out 1; have hcz17_0 : w14.cell? ⟨gb556, 0, none⟩ = some (.int .i64 a1_0) := (blk_cell BK556.out 0).trans rfl; have hcz17_1 : w14.cell? ⟨gb556, 1, none⟩ = some (.int .i64 a1_1) := (blk_cell BK556.out 1).trans rfl; have hcz17_2 : w14.cell? ⟨gb556, 2, none⟩ = some (.slice A1_2 l1_2.length c1_2) := (blk_cell BK556.out 2).trans rfl; have hcz17_3 : w14.cell? ⟨gb556, 3, none⟩ = some (.slice A1_3 l1_3.length c1_3) := (blk_cell BK556.out 3).trans rfl; have hfz17_0 := blk_frozen BK556.out 0; have hfz17_1 := blk_frozen BK556.out 1; have hfz17_2 := blk_frozen BK556.out 2; have hfz17_3 := blk_frozen BK556.out 3) | ((with_reducible refine gate_callee (f := 16) rfl ?_); refine gl 15 Try.func16 #[.agg #[.int .i64 a0_0, .slice A0_1 l0_1.length c0_1], .agg #[.int .i64 a1_0, .int .i64 a1_1, .slice A1_2 l1_2.length c1_2, .slice A1_3 l1_3.length c1_3]] ?_; (with_reducible refine (proof_Max.calls k a0_0 _ _ l0_1 a1_0 a1_1 _ _ l1_2 _ _ l1_3 t558 t559 _ (Kd.C_below HR0_1.out lb) HC0_1.out (Kd.C_below HR1_2.out lb) HC1_2.out (Kd.C_below HR1_3.out lb) HC1_3.out A6.out).mono ?_); rintro e w18 ⟨rfl, hb⟩; refine ⟨_, rfl, ?_⟩; have n0_ := ak (bo BK555 hb); have n1_ := ak (bo BK556 hb); have n2_ := ak (bl hb); clear BK555; clear BK556; clear HB; have BK555 := n0_; have BK556 := n1_; have HB := n2_; clear n0_ n1_ n2_; clear hb; have hcz19_0 : w18.cell? ⟨gb555, 0, none⟩ = some (.int .i64 a0_0) := (blk_cell BK555.out 0).trans rfl; have hcz19_1 : w18.cell? ⟨gb555, 1, none⟩ = some (.slice A0_1 l0_1.length c0_1) := (blk_cell BK555.out 1).trans rfl; have hfz19_0 := blk_frozen BK555.out 0; have hfz19_1 := blk_frozen BK555.out 1; have hcz20_0 : w18.cell? ⟨gb556, 0, none⟩ = some (.int .i64 a1_0) := (blk_cell BK556.out 0).trans rfl; have hcz20_1 : w18.cell? ⟨gb556, 1, none⟩ = some (.int .i64 a1_1) := (blk_cell BK556.out 1).trans rfl; have hcz20_2 : w18.cell? ⟨gb556, 2, none⟩ = some (.slice A1_2 l1_2.length c1_2) := (blk_cell BK556.out 2).trans rfl; have hcz20_3 : w18.cell? ⟨gb556, 3, none⟩ = some (.slice A1_3 l1_3.length c1_3) := (blk_cell BK556.out 3).trans rfl; have hfz20_0 := blk_frozen BK556.out 0; have hfz20_1 := blk_frozen BK556.out 1; have hfz20_2 := blk_frozen BK556.out 2; have hfz20_3 := blk_frozen BK556.out 3) | ((with_reducible refine gate_callee (f := 18) rfl ?_); refine gl 32 Try.func18 #[.agg #[.int .i64 a0_0, .slice A0_1 l0_1.length c0_1], .slice A2 l2.length c2, .int .i64 a1_0] ?_; (with_reducible refine (compassref11_Out.calls k a0_0 _ _ l0_1 _ _ l2 a1_0 t560 _ (Kd.C_below HR0_1.out lb) HC0_1.out (Kd.C_below HR2.out lb) HC2.out A9.out).mono ?_); rintro e w21 ⟨rfl, hb⟩; refine ⟨_, rfl, ?_⟩; have n0_ := ak (bo BK555 hb); have n1_ := ak (bo BK556 hb); have n2_ := ak (bl hb); clear BK555; clear BK556; clear HB; have BK555 := n0_; have BK556 := n1_; have HB := n2_; clear n0_ n1_ n2_; clear hb; have hcz22_0 : w21.cell? ⟨gb555, 0, none⟩ = some (.int .i64 a0_0) := (blk_cell BK555.out 0).trans rfl; have hcz22_1 : w21.cell? ⟨gb555, 1, none⟩ = some (.slice A0_1 l0_1.length c0_1) := (blk_cell BK555.out 1).trans rfl; have hfz22_0 := blk_frozen BK555.out 0; have hfz22_1 := blk_frozen BK555.out 1; have hcz23_0 : w21.cell? ⟨gb556, 0, none⟩ = some (.int .i64 a1_0) := (blk_cell BK556.out 0).trans rfl; have hcz23_1 : w21.cell? ⟨gb556, 1, none⟩ = some (.int .i64 a1_1) := (blk_cell BK556.out 1).trans rfl; have hcz23_2 : w21.cell? ⟨gb556, 2, none⟩ = some (.slice A1_2 l1_2.length c1_2) := (blk_cell BK556.out 2).trans rfl; have hcz23_3 : w21.cell? ⟨gb556, 3, none⟩ = some (.slice A1_3 l1_3.length c1_3) := (blk_cell BK556.out 3).trans rfl; have hfz23_0 := blk_frozen BK556.out 0; have hfz23_1 := blk_frozen BK556.out 1; have hfz23_2 := blk_frozen BK556.out 2; have hfz23_3 := blk_frozen BK556.out 3) | ((with_reducible refine gate_callee (f := 19) rfl ?_); refine gl 40 Try.func19 #[.agg #[.int .i64 a0_0, .slice A0_1 l0_1.length c0_1], .int .i64 a1_0, .int .i64 a1_1, .slice A2 l2.length c2, .int .i64 t560] ?_; (with_reducible refine (compassref11_Flows.calls k a0_0 _ _ l0_1 a1_0 a1_1 _ _ l2 t560 true _ (Kd.C_below HR0_1.out lb) HC0_1.out (Kd.C_below HR2.out lb) HC2.out A10.out).mono ?_); rintro e w24 ⟨rfl, hb⟩; refine ⟨_, rfl, ?_⟩; have n0_ := ak (bo BK555 hb); have n1_ := ak (bo BK556 hb); have n2_ := ak (bl hb); clear BK555; clear BK556; clear HB; have BK555 := n0_; have BK556 := n1_; have HB := n2_; clear n0_ n1_ n2_; clear hb))
  go_ret
  exact ⟨er, lb⟩
 replace c11 := Bool.eq_false_iff.mpr c11
 subst c11
 have H1 : (some true) = some r := by rw [if_neg (show ¬ (false = true) by decide)] at H; exact H
 clear H
 have H := H1
 clear H1
 obtain rfl := Option.some.inj H
 go_enter Try.func4, Try.ntmps4
 go_wp2_with (first | ((with_reducible refine gate_dst (N := 3) rfl ?_); refine bxe 3 #[.int .i64 a0_0, .slice A0_1 l0_1.length c0_1] 24 ?_; intro gb555 hg w25 hbox hb; have n0_ := ak (bl hb); have n1_ := ak (hbox); have n2_ := ak ((by rw [hg]; exact (below_size lb) : w.heap.size ≤ gb555)); have n3_ := ak ((by rw [hg]; exact (below_size lb) : w.heap.size ≤ gb555)); clear HB; have HB := n0_; have BK555 := n1_; have GW555 := n2_; have GE555 := n3_; clear n0_ n1_ n2_ n3_; clear hb hbox hg) | ((with_reducible refine gate_dst (N := 4) rfl ?_); refine bxe 4 #[.int .i64 a1_0, .int .i64 a1_1, .slice A1_2 l1_2.length c1_2, .slice A1_3 l1_3.length c1_3] 28 ?_; intro gb556 hg w26 hbox hb; have n0_ := ak (bo BK555 hb); have n1_ := ak (bl hb); have n2_ := ak (hbox); have n3_ := ak ((by rw [hg]; exact (below_size lb) : w.heap.size ≤ gb556)); have n4_ := ak ((by rw [hg]; exact (below_size lb) : w.heap.size ≤ gb556)); have n5_ := ak ((by rw [hg]; exact Nat.ne_of_lt (blk_lt (g := gb555) (o := .cells #[.int .i64 a0_0, .slice A0_1 l0_1.length c0_1] 24 (0, 0)) (bx BK555.out)) : gb555 ≠ gb556)); have n6_ := ak ((by rw [hg]; exact Nat.ne_of_gt (blk_lt (g := gb555) (o := .cells #[.int .i64 a0_0, .slice A0_1 l0_1.length c0_1] 24 (0, 0)) (bx BK555.out)) : gb556 ≠ gb555)); clear BK555; clear HB; have BK555 := n0_; have HB := n1_; have BK556 := n2_; have GW556 := n3_; have GE556 := n4_; have NB555_556 := n5_; have NB556_555 := n6_; clear n0_ n1_ n2_ n3_ n4_ n5_ n6_; clear hb hbox hg) | ((with_reducible refine gate_callee (f := 15) rfl ?_); refine gl 10 Try.func15 #[] ?_; (with_reducible refine (compasslaw11_awake.calls k true _ rfl A4.out).mono ?_); rintro e w27 ⟨rfl, hb⟩; refine ⟨_, rfl, ?_⟩; have n0_ := ak (bo BK555 hb); have n1_ := ak (bo BK556 hb); have n2_ := ak (bl hb); clear BK555; clear BK556; clear HB; have BK555 := n0_; have BK556 := n1_; have HB := n2_; clear n0_ n1_ n2_; clear hb; have ⟨_, _⟩ := nn NB555_556; have hcz29_0 : w27.cell? ⟨gb555, 0, none⟩ = some (.int .i64 a0_0) := (blk_cell BK555.out 0).trans rfl; have hcz29_1 : w27.cell? ⟨gb555, 1, none⟩ = some (.slice A0_1 l0_1.length c0_1) := (blk_cell BK555.out 1).trans rfl; have hfz29_0 := blk_frozen BK555.out 0; have hfz29_1 := blk_frozen BK555.out 1; have hcz30_0 : w27.cell? ⟨gb556, 0, none⟩ = some (.int .i64 a1_0) := (blk_cell BK556.out 0).trans rfl; have hcz30_1 : w27.cell? ⟨gb556, 1, none⟩ = some (.int .i64 a1_1) := (blk_cell BK556.out 1).trans rfl; have hcz30_2 : w27.cell? ⟨gb556, 2, none⟩ = some (.slice A1_2 l1_2.length c1_2) := (blk_cell BK556.out 2).trans rfl; have hcz30_3 : w27.cell? ⟨gb556, 3, none⟩ = some (.slice A1_3 l1_3.length c1_3) := (blk_cell BK556.out 3).trans rfl; have hfz30_0 := blk_frozen BK556.out 0; have hfz30_1 := blk_frozen BK556.out 1; have hfz30_2 := blk_frozen BK556.out 2; have hfz30_3 := blk_frozen BK556.out 3) | ((with_reducible refine gate_callee (f := 16) rfl ?_); refine gl 15 Try.func16 #[.agg #[.int .i64 a0_0, .slice A0_1 l0_1.length c0_1], .agg #[.int .i64 a1_0, .int .i64 a1_1, .slice A1_2 l1_2.length c1_2, .slice A1_3 l1_3.length c1_3]] ?_; (with_reducible refine (proof_Max.calls k a0_0 _ _ l0_1 a1_0 a1_1 _ _ l1_2 _ _ l1_3 t558 t559 _ (Kd.C_below HR0_1.out lb) HC0_1.out (Kd.C_below HR1_2.out lb) HC1_2.out (Kd.C_below HR1_3.out lb) HC1_3.out A6.out).mono ?_); rintro e w31 ⟨rfl, hb⟩; refine ⟨_, rfl, ?_⟩; have n0_ := ak (bo BK555 hb); have n1_ := ak (bo BK556 hb); have n2_ := ak (bl hb); clear BK555; clear BK556; clear HB; have BK555 := n0_; have BK556 := n1_; have HB := n2_; clear n0_ n1_ n2_; clear hb; have hcz32_0 : w31.cell? ⟨gb555, 0, none⟩ = some (.int .i64 a0_0) := (blk_cell BK555.out 0).trans rfl; have hcz32_1 : w31.cell? ⟨gb555, 1, none⟩ = some (.slice A0_1 l0_1.length c0_1) := (blk_cell BK555.out 1).trans rfl; have hfz32_0 := blk_frozen BK555.out 0; have hfz32_1 := blk_frozen BK555.out 1; have hcz33_0 : w31.cell? ⟨gb556, 0, none⟩ = some (.int .i64 a1_0) := (blk_cell BK556.out 0).trans rfl; have hcz33_1 : w31.cell? ⟨gb556, 1, none⟩ = some (.int .i64 a1_1) := (blk_cell BK556.out 1).trans rfl; have hcz33_2 : w31.cell? ⟨gb556, 2, none⟩ = some (.slice A1_2 l1_2.length c1_2) := (blk_cell BK556.out 2).trans rfl; have hcz33_3 : w31.cell? ⟨gb556, 3, none⟩ = some (.slice A1_3 l1_3.length c1_3) := (blk_cell BK556.out 3).trans rfl; have hfz33_0 := blk_frozen BK556.out 0; have hfz33_1 := blk_frozen BK556.out 1; have hfz33_2 := blk_frozen BK556.out 2; have hfz33_3 := blk_frozen BK556.out 3) | ((with_reducible refine gate_callee (f := 18) rfl ?_); refine gl 32 Try.func18 #[.agg #[.int .i64 a0_0, .slice A0_1 l0_1.length c0_1], .slice A2 l2.length c2, .int .i64 a1_0] ?_; (with_reducible refine (compassref11_Out.calls k a0_0 _ _ l0_1 _ _ l2 a1_0 t560 _ (Kd.C_below HR0_1.out lb) HC0_1.out (Kd.C_below HR2.out lb) HC2.out A9.out).mono ?_); rintro e w34 ⟨rfl, hb⟩; refine ⟨_, rfl, ?_⟩; have n0_ := ak (bo BK555 hb); have n1_ := ak (bo BK556 hb); have n2_ := ak (bl hb); clear BK555; clear BK556; clear HB; have BK555 := n0_; have BK556 := n1_; have HB := n2_; clear n0_ n1_ n2_; clear hb; have hcz35_0 : w34.cell? ⟨gb555, 0, none⟩ = some (.int .i64 a0_0) := (blk_cell BK555.out 0).trans rfl; have hcz35_1 : w34.cell? ⟨gb555, 1, none⟩ = some (.slice A0_1 l0_1.length c0_1) := (blk_cell BK555.out 1).trans rfl; have hfz35_0 := blk_frozen BK555.out 0; have hfz35_1 := blk_frozen BK555.out 1; have hcz36_0 : w34.cell? ⟨gb556, 0, none⟩ = some (.int .i64 a1_0) := (blk_cell BK556.out 0).trans rfl; have hcz36_1 : w34.cell? ⟨gb556, 1, none⟩ = some (.int .i64 a1_1) := (blk_cell BK556.out 1).trans rfl; have hcz36_2 : w34.cell? ⟨gb556, 2, none⟩ = some (.slice A1_2 l1_2.length c1_2) := (blk_cell BK556.out 2).trans rfl; have hcz36_3 : w34.cell? ⟨gb556, 3, none⟩ = some (.slice A1_3 l1_3.length c1_3) := (blk_cell BK556.out 3).trans rfl; have hfz36_0 := blk_frozen BK556.out 0; have hfz36_1 := blk_frozen BK556.out 1; have hfz36_2 := blk_frozen BK556.out 2; have hfz36_3 := blk_frozen BK556.out 3) | ((with_reducible refine gate_callee (f := 19) rfl ?_); refine gl 40 Try.func19 #[.agg #[.int .i64 a0_0, .slice A0_1 l0_1.length c0_1], .int .i64 a1_0, .int .i64 a1_1, .slice A2 l2.length c2, .int .i64 t560] ?_; (with_reducible refine (compassref11_Flows.calls k a0_0 _ _ l0_1 a1_0 a1_1 _ _ l2 t560 false _ (Kd.C_below HR0_1.out lb) HC0_1.out (Kd.C_below HR2.out lb) HC2.out A10.out).mono ?_); rintro e w37 ⟨rfl, hb⟩; refine ⟨_, rfl, ?_⟩; have n0_ := ak (bo BK555 hb); have n1_ := ak (bo BK556 hb); have n2_ := ak (bl hb); clear BK555; clear BK556; clear HB; have BK555 := n0_; have BK556 := n1_; have HB := n2_; clear n0_ n1_ n2_; clear hb))
 go_ret
 exact ⟨er, lb⟩
end Go.Proofs.Ytkdoihcjhccliaa.Q
