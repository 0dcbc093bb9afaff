-- PRINTED by print.py (a twelfth state) out of the translation. Not trusted: Lean checks it.
import Derived.Test.YtkdoihcjhccliaaQ0
import Derived.Test.YtkdoihcjhccliaaQ13
import Derived.Test.YtkdoihcjhccliaaQ19
import Derived.Test.YtkdoihcjhccliaaQ21
import Derived.Test.YtkdoihcjhccliaaQ27
import Derived.Test.YtkdoihcjhccliaaQ30
namespace Go.Proofs.Ytkdoihcjhccliaa.Q
open Go.RowKit Go.Proofs.YtkdoihcjhccliaaW.PrintWords Go.Proofs.YtkdoihcjhccliaaW.PrintLast Go.Proofs.YtkdoihcjhccliaaW.PrintMore
attribute [local go_sem] max2_int min2_int max_two min_two max_three min_three max_four min_four   -- for this text's walks alone
set_option linter.unusedVariables false
set_option linter.unusedSimpArgs false

/-! ### compasslaw11_ProofPlanSound: function 8 -/
def compasslaw11_ProofPlanSound.j0 : Nat → Int → Int → Int → Bool → Int → List (S98) → List Int → List Int → List Int → List Int → List Bool → Option (Bool)
  | 0, _, _, _, _, _, _, _, _, _, _, _ => none
  | k + 1, x7, x8, x9, x30, x563000, x563001, x564000, x564001, x564002, x565000, x565001 => if x30 = true then (some (x7 == 0)) else ((compassref11_Fits.f k x563000 x563001 x565000 x564000).bind fun t569 => (if x9 = 0 then (if t569 = true then (some false) else (if x8 = 0 then (some false) else (some true))) else (if x8 = 0 then (if t569 = true then ((compassref11_Total.f k x563000 x563001 x565000).bind fun t570 => (some (decide (t570 ≥ x7)))) else (some true)) else (some true))))
def compasslaw11_ProofPlanSound.f (k : Nat) (a0_0 : Int) (l0_1 : List (S98)) (l1_0 : List Int) (l1_1 : List Int) (l1_2 : List Int) (l2_0 : List Int) (l2_1 : List Bool) : Option (Bool) := (compasslaw11_awake.f k).bind fun t565 => (if t565 = true then ((proof_Cheapest.f k a0_0 l0_1 l1_0 l1_1 l1_2).bind fun bt566 => ((proof_NoPlan.f k a0_0 l0_1 l1_0 l2_1).bind fun t568 => (if bt566.2 = 0 then (compasslaw11_ProofPlanSound.j0 k bt566.1 bt566.2 t568 false a0_0 l0_1 l1_0 l1_1 l1_2 l2_0 l2_1) else (compasslaw11_ProofPlanSound.j0 k bt566.1 bt566.2 t568 (t568 != 0) a0_0 l0_1 l1_0 l1_1 l1_2 l2_0 l2_1)))) else (some false))
set_option maxHeartbeats 8000000 in
set_option maxRecDepth 100000 in
theorem compasslaw11_ProofPlanSound.calls (k : Nat) (a0_0 : Int) (A0_1 : Option Addr) (c0_1 : Nat) (l0_1 : List (S98)) (A1_0 : Option Addr) (c1_0 : Nat) (l1_0 : List Int) (A1_1 : Option Addr) (c1_1 : Nat) (l1_1 : List Int) (A1_2 : Option Addr) (c1_2 : Nat) (l1_2 : List Int) (A2_0 : Option Addr) (c2_0 : Nat) (l2_0 : List Int) (A2_1 : Option Addr) (c2_1 : Nat) (l2_1 : List Bool) (r : Bool) (w : World) (hr0_1 : Kd.C k98 w A0_1 l0_1.length l0_1) (hc0_1 : l0_1.length ≤ c0_1) (hr1_0 : Kd.C (Kd.int .i64) w A1_0 l1_0.length l1_0) (hc1_0 : l1_0.length ≤ c1_0) (hr1_1 : Kd.C (Kd.int .i64) w A1_1 l1_1.length l1_1) (hc1_1 : l1_1.length ≤ c1_1) (hr1_2 : Kd.C (Kd.int .i64) w A1_2 l1_2.length l1_2) (hc1_2 : l1_2.length ≤ c1_2) (hr2_0 : Kd.C (Kd.int .i64) w A2_0 l2_0.length l2_0) (hc2_0 : l2_0.length ≤ c2_0) (hr2_1 : Kd.C Kd.bool w A2_1 l2_1.length l2_1) (hc2_1 : l2_1.length ≤ c2_1) (hr_ : r = true) (h : compasslaw11_ProofPlanSound.f k a0_0 l0_1 l1_0 l1_1 l1_2 l2_0 l2_1 = some r) :
    Calls Try.prog 8 #[.agg #[.int .i64 a0_0, .slice A0_1 l0_1.length c0_1], .agg #[.slice A1_0 l1_0.length c1_0, .slice A1_1 l1_1.length c1_1, .slice A1_2 l1_2.length c1_2], .agg #[.slice A2_0 l2_0.length c2_0, .slice A2_1 l2_1.length c2_1]] w fun e w' => e = .returned (.bool r) ∧ Below w.heap.size w w' := by
 have hu24 := Try.underlying24
 have hu44 := Try.underlying44
 have hu58 := Try.underlying58
 have HR0_1 := ak hr0_1
 have HC0_1 := ak hc0_1
 clear hr0_1 hc0_1
 have HR1_0 := ak hr1_0
 have HC1_0 := ak hc1_0
 clear hr1_0 hc1_0
 have HR1_1 := ak hr1_1
 have HC1_1 := ak hc1_1
 clear hr1_1 hc1_1
 have HR1_2 := ak hr1_2
 have HC1_2 := ak hc1_2
 clear hr1_2 hc1_2
 have HR2_0 := ak hr2_0
 have HC2_0 := ak hc2_0
 clear hr2_0 hc2_0
 have HR2_1 := ak hr2_1
 have HC2_1 := ak hc2_1
 clear hr2_1 hc2_1
 have HB := ak (Below.refl w.heap.size w)
 have HR_ := ak hr_
 clear hr_
 have H : ((compasslaw11_awake.f k).bind fun t565 => (if t565 = true then ((proof_Cheapest.f k a0_0 l0_1 l1_0 l1_1 l1_2).bind fun bt566 => ((proof_NoPlan.f k a0_0 l0_1 l1_0 l2_1).bind fun t568 => (if bt566.2 = 0 then (compasslaw11_ProofPlanSound.j0 k bt566.1 bt566.2 t568 false a0_0 l0_1 l1_0 l1_1 l1_2 l2_0 l2_1) else (compasslaw11_ProofPlanSound.j0 k bt566.1 bt566.2 t568 (t568 != 0) a0_0 l0_1 l1_0 l1_1 l1_2 l2_0 l2_1)))) else (some false))) = some r := h
 clear h
 replace H := Option.bind_eq_some_iff.mp H
 obtain ⟨t565, A40, H⟩ := H
 replace H : (if t565 = true then ((proof_Cheapest.f k a0_0 l0_1 l1_0 l1_1 l1_2).bind fun bt566 => ((proof_NoPlan.f k a0_0 l0_1 l1_0 l2_1).bind fun t568 => (if bt566.2 = 0 then (compasslaw11_ProofPlanSound.j0 k bt566.1 bt566.2 t568 false a0_0 l0_1 l1_0 l1_1 l1_2 l2_0 l2_1) else (compasslaw11_ProofPlanSound.j0 k bt566.1 bt566.2 t568 (t568 != 0) a0_0 l0_1 l1_0 l1_1 l1_2 l2_0 l2_1)))) else (some false)) = some r := H
 have A4 := ak A40
 clear A40
 by_cases c5 : t565 = true
 rotate_left
 ·
  replace c5 := Bool.eq_false_iff.mpr c5
  subst c5
  have H1 : (some false) = some r := by rw [if_neg (show ¬ (false = true) by decide)] at H; exact H
  clear H
  have H := H1
  clear H1
  exact absurd ((Option.some.inj H).trans HR_.out) (by decide)

 subst c5
 have H1 : ((proof_Cheapest.f k a0_0 l0_1 l1_0 l1_1 l1_2).bind fun bt566 => ((proof_NoPlan.f k a0_0 l0_1 l1_0 l2_1).bind fun t568 => (if bt566.2 = 0 then (compasslaw11_ProofPlanSound.j0 k bt566.1 bt566.2 t568 false a0_0 l0_1 l1_0 l1_1 l1_2 l2_0 l2_1) else (compasslaw11_ProofPlanSound.j0 k bt566.1 bt566.2 t568 (t568 != 0) a0_0 l0_1 l1_0 l1_1 l1_2 l2_0 l2_1)))) = some r := by rw [if_pos rfl] at H; exact H
 clear H
 have H := H1
 clear H1
 replace H := Option.bind_eq_some_iff.mp H
 obtain ⟨⟨t566, t567⟩, A60, H⟩ := H
 replace H : ((proof_NoPlan.f k a0_0 l0_1 l1_0 l2_1).bind fun t568 => (if t567 = 0 then (compasslaw11_ProofPlanSound.j0 k t566 t567 t568 false a0_0 l0_1 l1_0 l1_1 l1_2 l2_0 l2_1) else (compasslaw11_ProofPlanSound.j0 k t566 t567 t568 (t568 != 0) a0_0 l0_1 l1_0 l1_1 l1_2 l2_0 l2_1))) = some r := H
 have A6 := ak A60
 clear A60
 replace H := Option.bind_eq_some_iff.mp H
 obtain ⟨t568, A70, H⟩ := H
 replace H : (if t567 = 0 then (compasslaw11_ProofPlanSound.j0 k t566 t567 t568 false a0_0 l0_1 l1_0 l1_1 l1_2 l2_0 l2_1) else (compasslaw11_ProofPlanSound.j0 k t566 t567 t568 (t568 != 0) a0_0 l0_1 l1_0 l1_1 l1_2 l2_0 l2_1)) = some r := H
 have A7 := ak A70
 clear A70
 have HC8 := ak H
 clear H
 go_enter Try.func8, Try.ntmps8
 go_upto_region 5 with (first | ((with_reducible refine gate_dst (N := 3) rfl ?_); refine bxe 3 #[.int .i64 a0_0, .slice A0_1 l0_1.length c0_1] 24 ?_; intro gb562 hg w9 hbox hb; have n0_ := ak (bl hb); have n1_ := ak (hbox); have n2_ := ak ((by rw [hg]; exact (below_size lb) : w.heap.size ≤ gb562)); have n3_ := ak ((by rw [hg]; exact (below_size lb) : w.heap.size ≤ gb562)); clear HB; have HB := n0_; have BK562 := n1_; have GW562 := n2_; have GE562 := n3_; clear n0_ n1_ n2_ n3_; clear hb hbox hg) | ((with_reducible refine gate_dst (N := 4) rfl ?_); refine bxe 4 #[.slice A1_0 l1_0.length c1_0, .slice A1_1 l1_1.length c1_1, .slice A1_2 l1_2.length c1_2] 44 ?_; intro gb563 hg w10 hbox hb; have n0_ := ak (bo BK562 hb); have n1_ := ak (bl hb); have n2_ := ak (hbox); have n3_ := ak ((by rw [hg]; exact (below_size lb) : w.heap.size ≤ gb563)); have n4_ := ak ((by rw [hg]; exact (below_size lb) : w.heap.size ≤ gb563)); have n5_ := ak ((by rw [hg]; exact Nat.ne_of_lt (blk_lt (g := gb562) (o := .cells #[.int .i64 a0_0, .slice A0_1 l0_1.length c0_1] 24 (0, 0)) (bx BK562.out)) : gb562 ≠ gb563)); have n6_ := ak ((by rw [hg]; exact Nat.ne_of_gt (blk_lt (g := gb562) (o := .cells #[.int .i64 a0_0, .slice A0_1 l0_1.length c0_1] 24 (0, 0)) (bx BK562.out)) : gb563 ≠ gb562)); clear BK562; clear HB; have BK562 := n0_; have HB := n1_; have BK563 := n2_; have GW563 := n3_; have GE563 := n4_; have NB562_563 := n5_; have NB563_562 := n6_; clear n0_ n1_ n2_ n3_ n4_ n5_ n6_; clear hb hbox hg) | ((with_reducible refine gate_dst (N := 5) rfl ?_); refine bxe 5 #[.slice A2_0 l2_0.length c2_0, .slice A2_1 l2_1.length c2_1] 58 ?_; intro gb564 hg w11 hbox hb; have n0_ := ak (bo BK562 hb); have n1_ := ak (bo BK563 hb); have n2_ := ak (bl hb); have n3_ := ak (hbox); have n4_ := ak ((by rw [hg]; exact (below_size lb) : w.heap.size ≤ gb564)); have n5_ := ak ((by rw [hg]; exact (below_size lb) : w.heap.size ≤ gb564)); have n6_ := ak ((by rw [hg]; exact Nat.ne_of_lt (blk_lt (g := gb562) (o := .cells #[.int .i64 a0_0, .slice A0_1 l0_1.length c0_1] 24 (0, 0)) (bx BK562.out)) : gb562 ≠ gb564)); have n7_ := ak ((by rw [hg]; exact Nat.ne_of_gt (blk_lt (g := gb562) (o := .cells #[.int .i64 a0_0, .slice A0_1 l0_1.length c0_1] 24 (0, 0)) (bx BK562.out)) : gb564 ≠ gb562)); have n8_ := ak ((by rw [hg]; exact Nat.ne_of_lt (blk_lt (g := gb563) (o := .cells #[.slice A1_0 l1_0.length c1_0, .slice A1_1 l1_1.length c1_1, .slice A1_2 l1_2.length c1_2] 44 (0, 0)) (bx BK563.out)) : gb563 ≠ gb564)); have n9_ := ak ((by rw [hg]; exact Nat.ne_of_gt (blk_lt (g := gb563) (o := .cells #[.slice A1_0 l1_0.length c1_0, .slice A1_1 l1_1.length c1_1, .slice A1_2 l1_2.length c1_2] 44 (0, 0)) (bx BK563.out)) : gb564 ≠ gb563)); clear BK562; clear BK563; clear HB; have BK562 := n0_; have BK563 := n1_; have HB := n2_; have BK564 := n3_; have GW564 := n4_; have GE564 := n5_; have NB562_564 := n6_; have NB564_562 := n7_; have NB563_564 := n8_; have NB564_563 := n9_; clear n0_ n1_ n2_ n3_ n4_ n5_ n6_ n7_ n8_ n9_; clear hb hbox hg) | ((with_reducible refine gate_callee (f := 15) rfl ?_); refine gl 11 Try.func15 #[] ?_; (with_reducible refine (compasslaw11_awake.calls k true _ rfl A4.out).mono ?_); rintro e w12 ⟨rfl, hb⟩; refine ⟨_, rfl, ?_⟩; have n0_ := ak (bo BK562 hb); have n1_ := ak (bo BK563 hb); have n2_ := ak (bo BK564 hb); have n3_ := ak (bl hb); clear BK562; clear BK563; clear BK564; clear HB; have BK562 := n0_; have BK563 := n1_; have BK564 := n2_; have HB := n3_; clear n0_ n1_ n2_ n3_; clear hb; have ⟨_, _⟩ := nn NB562_563; have ⟨_, _⟩ := nn NB562_564; have hcz15_0 : w12.cell? ⟨gb562, 0, none⟩ = some (.int .i64 a0_0) := (blk_cell BK562.out 0).trans rfl; have hcz15_1 : w12.cell? ⟨gb562, 1, none⟩ = some (.slice A0_1 l0_1.length c0_1) := (blk_cell BK562.out 1).trans rfl; have hfz15_0 := blk_frozen BK562.out 0; have hfz15_1 := blk_frozen BK562.out 1; have ⟨_, _⟩ := nn NB563_564; have hcz17_0 : w12.cell? ⟨gb563, 0, none⟩ = some (.slice A1_0 l1_0.length c1_0) := (blk_cell BK563.out 0).trans rfl; have hcz17_1 : w12.cell? ⟨gb563, 1, none⟩ = some (.slice A1_1 l1_1.length c1_1) := (blk_cell BK563.out 1).trans rfl; have hcz17_2 : w12.cell? ⟨gb563, 2, none⟩ = some (.slice A1_2 l1_2.length c1_2) := (blk_cell BK563.out 2).trans rfl; have hfz17_0 := blk_frozen BK563.out 0; have hfz17_1 := blk_frozen BK563.out 1; have hfz17_2 := blk_frozen BK563.out 2) | ((with_reducible refine gate_callee (f := 22) rfl ?_); refine gl 16 Try.func22 #[.agg #[.int .i64 a0_0, .slice A0_1 l0_1.length c0_1], .agg #[.slice A1_0 l1_0.length c1_0, .slice A1_1 l1_1.length c1_1, .slice A1_2 l1_2.length c1_2]] ?_; (with_reducible refine (proof_Cheapest.calls k a0_0 _ _ l0_1 _ _ l1_0 _ _ l1_1 _ _ l1_2 t566 t567 _ (Kd.C_below HR0_1.out lb) HC0_1.out (Kd.C_below HR1_0.out lb) HC1_0.out (Kd.C_below HR1_1.out lb) HC1_1.out (Kd.C_below HR1_2.out lb) HC1_2.out A6.out).mono ?_); rintro e w18 ⟨rfl, hb⟩; refine ⟨_, rfl, ?_⟩; have n0_ := ak (bo BK562 hb); have n1_ := ak (bo BK563 hb); have n2_ := ak (bo BK564 hb); have n3_ := ak (bl hb); clear BK562; clear BK563; clear BK564; clear HB; have BK562 := n0_; have BK563 := n1_; have BK564 := n2_; have HB := n3_; clear n0_ n1_ n2_ n3_; clear hb; have hcz19_0 : w18.cell? ⟨gb562, 0, none⟩ = some (.int .i64 a0_0) := (blk_cell BK562.out 0).trans rfl; have hcz19_1 : w18.cell? ⟨gb562, 1, none⟩ = some (.slice A0_1 l0_1.length c0_1) := (blk_cell BK562.out 1).trans rfl; have hfz19_0 := blk_frozen BK562.out 0; have hfz19_1 := blk_frozen BK562.out 1; have hcz20_0 : w18.cell? ⟨gb563, 0, none⟩ = some (.slice A1_0 l1_0.length c1_0) := (blk_cell BK563.out 0).trans rfl; have hcz20_1 : w18.cell? ⟨gb563, 1, none⟩ = some (.slice A1_1 l1_1.length c1_1) := (blk_cell BK563.out 1).trans rfl; have hcz20_2 : w18.cell? ⟨gb563, 2, none⟩ = some (.slice A1_2 l1_2.length c1_2) := (blk_cell BK563.out 2).trans rfl; have hfz20_0 := blk_frozen BK563.out 0; have hfz20_1 := blk_frozen BK563.out 1; have hfz20_2 := blk_frozen BK563.out 2; have hcz21_0 : w18.cell? ⟨gb564, 0, none⟩ = some (.slice A2_0 l2_0.length c2_0) := (blk_cell BK564.out 0).trans rfl; have hcz21_1 : w18.cell? ⟨gb564, 1, none⟩ = some (.slice A2_1 l2_1.length c2_1) := (blk_cell BK564.out 1).trans rfl; have hfz21_0 := blk_frozen BK564.out 0; have hfz21_1 := blk_frozen BK564.out 1) | ((with_reducible refine gate_callee (f := 24) rfl ?_); refine gl 24 Try.func24 #[.agg #[.int .i64 a0_0, .slice A0_1 l0_1.length c0_1], .slice A1_0 l1_0.length c1_0, .slice A2_1 l2_1.length c2_1] ?_; (with_reducible refine (proof_NoPlan.calls k a0_0 _ _ l0_1 _ _ l1_0 _ _ l2_1 t568 _ (Kd.C_below HR0_1.out lb) HC0_1.out (Kd.C_below HR1_0.out lb) HC1_0.out (Kd.C_below HR2_1.out lb) HC2_1.out A7.out).mono ?_); rintro e w22 ⟨rfl, hb⟩; refine ⟨_, rfl, ?_⟩; have n0_ := ak (bo BK562 hb); have n1_ := ak (bo BK563 hb); have n2_ := ak (bo BK564 hb); have n3_ := ak (bl hb); clear BK562; clear BK563; clear BK564; clear HB; have BK562 := n0_; have BK563 := n1_; have BK564 := n2_; have HB := n3_; clear n0_ n1_ n2_ n3_; clear hb))
 (try simp only [Act.put, List.setIfInBounds_toArray, List.set_cons_zero, List.set_cons_succ])
 go_cut [30] (fun v30 wc => ∃ (kq : Nat) (x30_7 : Bool), v30 = .bool x30_7 ∧ Aside0 (compasslaw11_ProofPlanSound.j0 kq t566 t567 t568 x30_7 a0_0 l0_1 l1_0 l1_1 l1_2 l2_0 l2_1 = some r) ∧ Aside0 (kq ≤ k) ∧ Aside0 (wc.heap[gb562]? = some (.cells #[.int .i64 a0_0, (.slice A0_1 l0_1.length c0_1)] 24 (0, 0))) ∧ Aside0 (wc.heap[gb563]? = some (.cells #[(.slice A1_0 l1_0.length c1_0), (.slice A1_1 l1_1.length c1_1), (.slice A1_2 l1_2.length c1_2)] 44 (0, 0))) ∧ Aside0 (wc.heap[gb564]? = some (.cells #[(.slice A2_0 l2_0.length c2_0), (.slice A2_1 l2_1.length c2_1)] 58 (0, 0))) ∧ Aside0 (Below w.heap.size w wc))
 case first =>
  have H := HC8.out
  clear HC8
  by_cases c23 : t567 = 0
  rotate_left
  ·
   rw [if_neg c23] at H
   have c23b0 := bn c23
   have c23b1 : (t567 != 0) = true := bne_iff_ne.mpr c23
   (first | rw [c23b0] | (simp only [i64_w, i32_w]; rw [c23b0]) | skip)
   have H' := ak H
   clear H
   go_wp2
   go_meet
   case rel => exact ⟨_, ((t568 != 0)), sr, H', ⟨by first | omega | exact Nat.le_refl _⟩, xb BK562, xb BK563, xb BK564, ⟨lb⟩⟩
  rw [if_pos c23] at H
  have c23b0 := be c23
  have c23b1 : (t567 != 0) = false := bne_eq_false_iff_eq.mpr c23
  clear c23
  (first | rw [c23b0] | (simp only [i64_w, i32_w]; rw [c23b0]) | skip)
  have H' := ak H
  clear H
  go_wp2
  go_meet
  case rel => exact ⟨_, (false), sr, H', ⟨by first | omega | exact Nat.le_refl _⟩, xb BK562, xb BK563, xb BK564, ⟨lb⟩⟩
 case rest =>
  clear HC8
  try clear c1; try clear c2; try clear p2; try clear c5; try clear c8; try clear c13; try clear c14; try clear c15; try clear c16; try clear c22; try clear c23; try clear c23b0; try clear c23b1; try clear hcz15_0; try clear hcz15_1; try clear hcz17_0; try clear hcz17_1; try clear hcz17_2; try clear hcz19_0; try clear hcz19_1; try clear hcz20_0; try clear hcz20_1; try clear hcz20_2; try clear hcz21_0; try clear hcz21_1; try clear hfz15_0; try clear hfz15_1; try clear hfz17_0; try clear hfz17_1; try clear hfz17_2; try clear hfz19_0; try clear hfz19_1; try clear hfz20_0; try clear hfz20_1; try clear hfz20_2; try clear hfz21_0; try clear hfz21_1
  obtain ⟨kq, x30_7, rfl, HA, HJ7, BK562, BK563, BK564, HB⟩ := hcut
  cases kq with
  | zero => exact absurd HA.out (by simp [compasslaw11_ProofPlanSound.j0])
  | succ kj7 =>
   have H := HA.out
   clear HA
   simp only [compasslaw11_ProofPlanSound.j0] at H
   by_cases c24 : x30_7 = true
   ·
    subst c24
    have H1 : (some (t566 == 0)) = some r := by rw [if_pos rfl] at H; exact H
    clear H
    have H := H1
    clear H1
    obtain rfl := Option.some.inj H
    go_wp2
    go_ret
    exact ⟨er, lb⟩
   replace c24 := Bool.eq_false_iff.mpr c24
   subst c24
   have H1 : ((compassref11_Fits.f kj7 a0_0 l0_1 l2_0 l1_0).bind fun t569 => (if t568 = 0 then (if t569 = true then (some false) else (if t567 = 0 then (some false) else (some true))) else (if t567 = 0 then (if t569 = true then ((compassref11_Total.f kj7 a0_0 l0_1 l2_0).bind fun t570 => (some (decide (t570 ≥ t566)))) else (some true)) else (some true)))) = some r := by rw [if_neg (show ¬ (false = true) by decide)] at H; exact H
   clear H
   have H := H1
   clear H1
   replace H := Option.bind_eq_some_iff.mp H
   obtain ⟨t569, A250, H⟩ := H
   replace H : (if t568 = 0 then (if t569 = true then (some false) else (if t567 = 0 then (some false) else (some true))) else (if t567 = 0 then (if t569 = true then ((compassref11_Total.f kj7 a0_0 l0_1 l2_0).bind fun t570 => (some (decide (t570 ≥ t566)))) else (some true)) else (some true))) = some r := H
   have A25 := ak A250
   clear A250
   by_cases c26 : t568 = 0
   ·
    rw [if_pos c26] at H
    have c26b0 := be c26
    have c26b1 : (t568 != 0) = false := bne_eq_false_iff_eq.mpr c26
    clear c26
    by_cases c27 : t569 = true
    ·
     subst c27
     have H1 : (some false) = some r := by rw [if_pos rfl] at H; exact H
     clear H
     have H := H1
     clear H1
     exact absurd ((Option.some.inj H).trans HR_.out) (by decide)
    replace c27 := Bool.eq_false_iff.mpr c27
    subst c27
    have H1 : (if t567 = 0 then (some false) else (some true)) = some r := by rw [if_neg (show ¬ (false = true) by decide)] at H; exact H
    clear H
    have H := H1
    clear H1
    by_cases c28 : t567 = 0
    ·
     rw [if_pos c28] at H
     have c28b0 := be c28
     have c28b1 : (t567 != 0) = false := bne_eq_false_iff_eq.mpr c28
     clear c28
     exact absurd ((Option.some.inj H).trans HR_.out) (by decide)
    rw [if_neg c28] at H
    have c28b0 := bn c28
    have c28b1 : (t567 != 0) = true := bne_iff_ne.mpr c28
    obtain rfl := Option.some.inj H
    have hnb29 := NB562_563.out
    have hnc29 := NB563_562.out
    have hnb30 := NB562_564.out
    have hnc30 := NB564_562.out
    have hcz31_0 : wc.cell? ⟨gb562, 0, none⟩ = some (.int .i64 a0_0) := (blk_cell BK562.out 0).trans rfl
    have hcz31_1 : wc.cell? ⟨gb562, 1, none⟩ = some (.slice A0_1 l0_1.length c0_1) := (blk_cell BK562.out 1).trans rfl
    have hfz31_0 := blk_frozen BK562.out 0
    have hfz31_1 := blk_frozen BK562.out 1
    have hnb32 := NB564_563.out
    have hnc32 := NB563_564.out
    have hcz33_0 : wc.cell? ⟨gb564, 0, none⟩ = some (.slice A2_0 l2_0.length c2_0) := (blk_cell BK564.out 0).trans rfl
    have hcz33_1 : wc.cell? ⟨gb564, 1, none⟩ = some (.slice A2_1 l2_1.length c2_1) := (blk_cell BK564.out 1).trans rfl
    have hfz33_0 := blk_frozen BK564.out 0
    have hfz33_1 := blk_frozen BK564.out 1
    have hcz34_0 : wc.cell? ⟨gb563, 0, none⟩ = some (.slice A1_0 l1_0.length c1_0) := (blk_cell BK563.out 0).trans rfl
    have hcz34_1 : wc.cell? ⟨gb563, 1, none⟩ = some (.slice A1_1 l1_1.length c1_1) := (blk_cell BK563.out 1).trans rfl
    have hcz34_2 : wc.cell? ⟨gb563, 2, none⟩ = some (.slice A1_2 l1_2.length c1_2) := (blk_cell BK563.out 2).trans rfl
    have hfz34_0 := blk_frozen BK563.out 0
    have hfz34_1 := blk_frozen BK563.out 1
    have hfz34_2 := blk_frozen BK563.out 2
    go_wp2_with (first | ((with_reducible refine gate_callee (f := 30) rfl ?_); refine gl 38 Try.func30 #[.agg #[.int .i64 a0_0, .slice A0_1 l0_1.length c0_1], .slice A2_0 l2_0.length c2_0, .slice A1_0 l1_0.length c1_0] ?_; (with_reducible refine (compassref11_Fits.calls kj7 a0_0 _ _ l0_1 _ _ l2_0 _ _ l1_0 false _ (Kd.C_below HR0_1.out lb) HC0_1.out (Kd.C_below HR2_0.out lb) HC2_0.out (Kd.C_below HR1_0.out lb) HC1_0.out A25.out).mono ?_); rintro e w35 ⟨rfl, hb⟩; refine ⟨_, rfl, ?_⟩; have n0_ := ak (bo BK562 hb); have n1_ := ak (bo BK563 hb); have n2_ := ak (bo BK564 hb); have n3_ := ak (bl hb); clear BK562; clear BK563; clear BK564; clear HB; have BK562 := n0_; have BK563 := n1_; have BK564 := n2_; have HB := n3_; clear n0_ n1_ n2_ n3_; clear hb))
    go_ret
    exact ⟨er, lb⟩
   rw [if_neg c26] at H
   have c26b0 := bn c26
   have c26b1 : (t568 != 0) = true := bne_iff_ne.mpr c26
   by_cases c36 : t567 = 0
   rotate_left
   ·
    rw [if_neg c36] at H
    have c36b0 := bn c36
    have c36b1 : (t567 != 0) = true := bne_iff_ne.mpr c36
    obtain rfl := Option.some.inj H
    have hnb56 := NB562_563.out
    have hnc56 := NB563_562.out
    have hnb57 := NB562_564.out
    have hnc57 := NB564_562.out
    have hcz58_0 : wc.cell? ⟨gb562, 0, none⟩ = some (.int .i64 a0_0) := (blk_cell BK562.out 0).trans rfl
    have hcz58_1 : wc.cell? ⟨gb562, 1, none⟩ = some (.slice A0_1 l0_1.length c0_1) := (blk_cell BK562.out 1).trans rfl
    have hfz58_0 := blk_frozen BK562.out 0
    have hfz58_1 := blk_frozen BK562.out 1
    have hnb59 := NB564_563.out
    have hnc59 := NB563_564.out
    have hcz60_0 : wc.cell? ⟨gb564, 0, none⟩ = some (.slice A2_0 l2_0.length c2_0) := (blk_cell BK564.out 0).trans rfl
    have hcz60_1 : wc.cell? ⟨gb564, 1, none⟩ = some (.slice A2_1 l2_1.length c2_1) := (blk_cell BK564.out 1).trans rfl
    have hfz60_0 := blk_frozen BK564.out 0
    have hfz60_1 := blk_frozen BK564.out 1
    have hcz61_0 : wc.cell? ⟨gb563, 0, none⟩ = some (.slice A1_0 l1_0.length c1_0) := (blk_cell BK563.out 0).trans rfl
    have hcz61_1 : wc.cell? ⟨gb563, 1, none⟩ = some (.slice A1_1 l1_1.length c1_1) := (blk_cell BK563.out 1).trans rfl
    have hcz61_2 : wc.cell? ⟨gb563, 2, none⟩ = some (.slice A1_2 l1_2.length c1_2) := (blk_cell BK563.out 2).trans rfl
    have hfz61_0 := blk_frozen BK563.out 0
    have hfz61_1 := blk_frozen BK563.out 1
    have hfz61_2 := blk_frozen BK563.out 2
    go_wp2_with (first | ((with_reducible refine gate_callee (f := 30) rfl ?_); refine gl 38 Try.func30 #[.agg #[.int .i64 a0_0, .slice A0_1 l0_1.length c0_1], .slice A2_0 l2_0.length c2_0, .slice A1_0 l1_0.length c1_0] ?_; (with_reducible refine (compassref11_Fits.calls kj7 a0_0 _ _ l0_1 _ _ l2_0 _ _ l1_0 t569 _ (Kd.C_below HR0_1.out lb) HC0_1.out (Kd.C_below HR2_0.out lb) HC2_0.out (Kd.C_below HR1_0.out lb) HC1_0.out A25.out).mono ?_); rintro e w62 ⟨rfl, hb⟩; refine ⟨_, rfl, ?_⟩; have n0_ := ak (bo BK562 hb); have n1_ := ak (bo BK563 hb); have n2_ := ak (bo BK564 hb); have n3_ := ak (bl hb); clear BK562; clear BK563; clear BK564; clear HB; have BK562 := n0_; have BK563 := n1_; have BK564 := n2_; have HB := n3_; clear n0_ n1_ n2_ n3_; clear hb))
    go_ret
    exact ⟨er, lb⟩
   rw [if_pos c36] at H
   have c36b0 := be c36
   have c36b1 : (t567 != 0) = false := bne_eq_false_iff_eq.mpr c36
   clear c36
   by_cases c37 : t569 = true
   rotate_left
   ·
    replace c37 := Bool.eq_false_iff.mpr c37
    subst c37
    have H1 : (some true) = some r := by rw [if_neg (show ¬ (false = true) by decide)] at H; exact H
    clear H
    have H := H1
    clear H1
    obtain rfl := Option.some.inj H
    have hnb49 := NB562_563.out
    have hnc49 := NB563_562.out
    have hnb50 := NB562_564.out
    have hnc50 := NB564_562.out
    have hcz51_0 : wc.cell? ⟨gb562, 0, none⟩ = some (.int .i64 a0_0) := (blk_cell BK562.out 0).trans rfl
    have hcz51_1 : wc.cell? ⟨gb562, 1, none⟩ = some (.slice A0_1 l0_1.length c0_1) := (blk_cell BK562.out 1).trans rfl
    have hfz51_0 := blk_frozen BK562.out 0
    have hfz51_1 := blk_frozen BK562.out 1
    have hnb52 := NB564_563.out
    have hnc52 := NB563_564.out
    have hcz53_0 : wc.cell? ⟨gb564, 0, none⟩ = some (.slice A2_0 l2_0.length c2_0) := (blk_cell BK564.out 0).trans rfl
    have hcz53_1 : wc.cell? ⟨gb564, 1, none⟩ = some (.slice A2_1 l2_1.length c2_1) := (blk_cell BK564.out 1).trans rfl
    have hfz53_0 := blk_frozen BK564.out 0
    have hfz53_1 := blk_frozen BK564.out 1
    have hcz54_0 : wc.cell? ⟨gb563, 0, none⟩ = some (.slice A1_0 l1_0.length c1_0) := (blk_cell BK563.out 0).trans rfl
    have hcz54_1 : wc.cell? ⟨gb563, 1, none⟩ = some (.slice A1_1 l1_1.length c1_1) := (blk_cell BK563.out 1).trans rfl
    have hcz54_2 : wc.cell? ⟨gb563, 2, none⟩ = some (.slice A1_2 l1_2.length c1_2) := (blk_cell BK563.out 2).trans rfl
    have hfz54_0 := blk_frozen BK563.out 0
    have hfz54_1 := blk_frozen BK563.out 1
    have hfz54_2 := blk_frozen BK563.out 2
    go_wp2_with (first | ((with_reducible refine gate_callee (f := 30) rfl ?_); refine gl 38 Try.func30 #[.agg #[.int .i64 a0_0, .slice A0_1 l0_1.length c0_1], .slice A2_0 l2_0.length c2_0, .slice A1_0 l1_0.length c1_0] ?_; (with_reducible refine (compassref11_Fits.calls kj7 a0_0 _ _ l0_1 _ _ l2_0 _ _ l1_0 false _ (Kd.C_below HR0_1.out lb) HC0_1.out (Kd.C_below HR2_0.out lb) HC2_0.out (Kd.C_below HR1_0.out lb) HC1_0.out A25.out).mono ?_); rintro e w55 ⟨rfl, hb⟩; refine ⟨_, rfl, ?_⟩; have n0_ := ak (bo BK562 hb); have n1_ := ak (bo BK563 hb); have n2_ := ak (bo BK564 hb); have n3_ := ak (bl hb); clear BK562; clear BK563; clear BK564; clear HB; have BK562 := n0_; have BK563 := n1_; have BK564 := n2_; have HB := n3_; clear n0_ n1_ n2_ n3_; clear hb))
    go_ret
    exact ⟨er, lb⟩
   subst c37
   have H1 : ((compassref11_Total.f kj7 a0_0 l0_1 l2_0).bind fun t570 => (some (decide (t570 ≥ t566)))) = some r := by rw [if_pos rfl] at H; exact H
   clear H
   have H := H1
   clear H1
   replace H := Option.bind_eq_some_iff.mp H
   obtain ⟨t570, A380, H⟩ := H
   replace H : (some (decide (t570 ≥ t566))) = some r := H
   have A38 := ak A380
   clear A380
   obtain rfl := Option.some.inj H
   have hnb39 := NB562_563.out
   have hnc39 := NB563_562.out
   have hnb40 := NB562_564.out
   have hnc40 := NB564_562.out
   have hcz41_0 : wc.cell? ⟨gb562, 0, none⟩ = some (.int .i64 a0_0) := (blk_cell BK562.out 0).trans rfl
   have hcz41_1 : wc.cell? ⟨gb562, 1, none⟩ = some (.slice A0_1 l0_1.length c0_1) := (blk_cell BK562.out 1).trans rfl
   have hfz41_0 := blk_frozen BK562.out 0
   have hfz41_1 := blk_frozen BK562.out 1
   have hnb42 := NB564_563.out
   have hnc42 := NB563_564.out
   have hcz43_0 : wc.cell? ⟨gb564, 0, none⟩ = some (.slice A2_0 l2_0.length c2_0) := (blk_cell BK564.out 0).trans rfl
   have hcz43_1 : wc.cell? ⟨gb564, 1, none⟩ = some (.slice A2_1 l2_1.length c2_1) := (blk_cell BK564.out 1).trans rfl
   have hfz43_0 := blk_frozen BK564.out 0
   have hfz43_1 := blk_frozen BK564.out 1
   have hcz44_0 : wc.cell? ⟨gb563, 0, none⟩ = some (.slice A1_0 l1_0.length c1_0) := (blk_cell BK563.out 0).trans rfl
   have hcz44_1 : wc.cell? ⟨gb563, 1, none⟩ = some (.slice A1_1 l1_1.length c1_1) := (blk_cell BK563.out 1).trans rfl
   have hcz44_2 : wc.cell? ⟨gb563, 2, none⟩ = some (.slice A1_2 l1_2.length c1_2) := (blk_cell BK563.out 2).trans rfl
   have hfz44_0 := blk_frozen BK563.out 0
   have hfz44_1 := blk_frozen BK563.out 1
   have hfz44_2 := blk_frozen BK563.out 2
   go_wp2_with (first | ((with_reducible refine gate_callee (f := 30) rfl ?_); refine gl 38 Try.func30 #[.agg #[.int .i64 a0_0, .slice A0_1 l0_1.length c0_1], .slice A2_0 l2_0.length c2_0, .slice A1_0 l1_0.length c1_0] ?_; (with_reducible refine (compassref11_Fits.calls kj7 a0_0 _ _ l0_1 _ _ l2_0 _ _ l1_0 true _ (Kd.C_below HR0_1.out lb) HC0_1.out (Kd.C_below HR2_0.out lb) HC2_0.out (Kd.C_below HR1_0.out lb) HC1_0.out A25.out).mono ?_); rintro e w45 ⟨rfl, hb⟩; refine ⟨_, rfl, ?_⟩; have n0_ := ak (bo BK562 hb); have n1_ := ak (bo BK563 hb); have n2_ := ak (bo BK564 hb); have n3_ := ak (bl hb); clear BK562; clear BK563; clear BK564; clear HB; have BK562 := n0_; have BK563 := n1_; have BK564 := n2_; have HB := n3_; clear n0_ n1_ n2_ n3_; clear hb; have hcz46_0 : w45.cell? ⟨gb562, 0, none⟩ = some (.int .i64 a0_0) := (blk_cell BK562.out 0).trans rfl; have hcz46_1 : w45.cell? ⟨gb562, 1, none⟩ = some (.slice A0_1 l0_1.length c0_1) := (blk_cell BK562.out 1).trans rfl; have hfz46_0 := blk_frozen BK562.out 0; have hfz46_1 := blk_frozen BK562.out 1; have hcz47_0 : w45.cell? ⟨gb564, 0, none⟩ = some (.slice A2_0 l2_0.length c2_0) := (blk_cell BK564.out 0).trans rfl; have hcz47_1 : w45.cell? ⟨gb564, 1, none⟩ = some (.slice A2_1 l2_1.length c2_1) := (blk_cell BK564.out 1).trans rfl; have hfz47_0 := blk_frozen BK564.out 0; have hfz47_1 := blk_frozen BK564.out 1) | (go_at_call 31; (with_reducible refine (compassref11_Total.calls kj7 a0_0 _ _ l0_1 _ _ l2_0 t570 _ (Kd.C_below HR0_1.out lb) HC0_1.out (Kd.C_below HR2_0.out lb) HC2_0.out A38.out).mono ?_); rintro e w48 ⟨rfl, hb⟩; have n0_ := ak (bo BK562 hb); have n1_ := ak (bo BK563 hb); have n2_ := ak (bo BK564 hb); have n3_ := ak (bl hb); clear BK562; clear BK563; clear BK564; clear HB; have BK562 := n0_; have BK563 := n1_; have BK564 := n2_; have HB := n3_; clear n0_ n1_ n2_ n3_; clear hb))
   go_ret
   exact ⟨er, lb⟩
end Go.Proofs.Ytkdoihcjhccliaa.Q
