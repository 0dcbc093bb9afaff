-- PRINTED by print.py (a twelfth state) out of the translation. Not trusted: Lean checks it.
import Derived.Test.YtkdoihcjhccliaaQ0
import Derived.Test.YtkdoihcjhccliaaQ19
import Derived.Test.YtkdoihcjhccliaaQ23
import Derived.Test.YtkdoihcjhccliaaQ32
import Derived.Test.YtkdoihcjhccliaaQ33
import Derived.Test.YtkdoihcjhccliaaQ34
import Derived.Test.YtkdoihcjhccliaaQ37
import Derived.Test.YtkdoihcjhccliaaQ52
namespace Go.Proofs.Ytkdoihcjhccliaa.Q
open Go.RowKit Go.Proofs.YtkdoihcjhccliaaW.PrintWords Go.Proofs.YtkdoihcjhccliaaW.PrintLast Go.Proofs.YtkdoihcjhccliaaW.PrintMore
attribute [local go_sem] max2_int min2_int max_two min_two max_three min_three max_four min_four   -- for this text's walks alone
set_option linter.unusedVariables false
set_option linter.unusedSimpArgs false

attribute [local go_sem high] eqA74
/-! ### compasslaw11_ProofMeanSound: function 14 -/
mutual
def compasslaw11_ProofMeanSound.j0 : Nat → Int → Int → Bool → Int → List (S98) → List Int → List Int → Int → Int → Option (Bool)
  | 0, _, _, _, _, _, _, _, _, _ => none
  | k + 1, x8, x9, x12, x582000, x582001, x584000, x584001, x589000, x589001 => if x9 = 0 then (if x8 = 0 then (compasslaw11_ProofMeanSound.j1 k x8 x12 true x582000 x582001 x584000 x584001 x589000 x589001) else (compasslaw11_ProofMeanSound.j1 k x8 x12 x12 x582000 x582001 x584000 x584001 x589000 x589001)) else (compasslaw11_ProofMeanSound.j1 k x8 x12 false x582000 x582001 x584000 x584001 x589000 x589001)
def compasslaw11_ProofMeanSound.j1 : Nat → Int → Bool → Bool → Int → List (S98) → List Int → List Int → Int → Int → Option (Bool)
  | 0, _, _, _, _, _, _, _, _, _ => none
  | k + 1, x8, x12, x48, x582000, x582001, x584000, x584001, x589000, x589001 => if x48 = true then (some false) else (if x8 = 0 then (compasslaw11_ProofMeanSound.j2 k x8 (!x12) x582000 x582001 x584000 x584001 x589000 x589001) else (compasslaw11_ProofMeanSound.j2 k x8 true x582000 x582001 x584000 x584001 x589000 x589001))
def compasslaw11_ProofMeanSound.j2 : Nat → Int → Bool → Int → List (S98) → List Int → List Int → Int → Int → Option (Bool)
  | 0, _, _, _, _, _, _, _, _ => none
  | k + 1, x8, x54, x582000, x582001, x584000, x584001, x589000, x589001 => if x54 = true then (if x8 = 0 then (some true) else (some (x589000 == 0 && (x589001 == 0)))) else ((compassref08_Cost.f k x582000 x582001 x584000).bind fun t593 => ((safeint_Order.f k x589000 x589001 t593 (x584000.length : Int)).bind fun bt594 => (if bt594.2 = 0 then (some (decide (bt594.1 ≤ 0))) else (some false))))
end
def compasslaw11_ProofMeanSound.f (k : Nat) (a0_0 : Int) (l0_1 : List (S98)) (l1_0 : List Int) (l1_1 : List Int) (l2_0 : List Int) (l2_1 : List Int) : Option (Bool) := (compasslaw11_awake.f k).bind fun t584 => (if t584 = true then ((proof_Mean.f k a0_0 l0_1 l1_0 l1_1).bind fun bt585 => ((proof_Acyclic.f k a0_0 l0_1 l2_1).bind fun t589 => ((compassref03_Check.f k a0_0 l0_1).bind fun bt590 => (if bt590.1 = 0 then ((compassref04_Circle.f k a0_0 l0_1 l2_0).bind fun t592 => (compasslaw11_ProofMeanSound.j0 k bt585.2.2 t589 t592 a0_0 l0_1 l2_0 l2_1 bt585.1 bt585.2.1)) else (compasslaw11_ProofMeanSound.j0 k bt585.2.2 t589 false a0_0 l0_1 l2_0 l2_1 bt585.1 bt585.2.1))))) else (some false))
def compasslaw11_ProofMeanSound.T11 : Bool × List (List Nat × List Nat) := (true, [([], []), ([0], [0]), ([], []), ([2], [2]), ([], []), ([], []), ([5], [5]), ([4, 6], [4, 6]), ([], []), ([8], [8]), ([9], [9]), ([1, 3, 7, 10, 7], [1, 3, 7, 10]), ([11], [11]), ([12], [12]), ([12], [12]), ([13, 11, 0, 1, 2, 3, 4, 5, 6, 7, 8, 9, 10, 11, 12, 13], [13]), ([14, 15, 0, 1, 2, 3, 4, 5, 6, 7, 8, 9, 10, 11, 12, 13, 14, 15], [14])])
def compasslaw11_ProofMeanSound.B11 : List Nat := [0, 1, 0, 4, 0, 0, 32, 112, 0, 256, 768, 2047, 4095, 8191, 8191, 16383, 65535]
theorem compasslaw11_ProofMeanSound.tab11 : rtab .any (opsOf Try.f14 11) = compasslaw11_ProofMeanSound.T11 := by kernel_rfl
theorem compasslaw11_ProofMeanSound.bits11 : waitsOk compasslaw11_ProofMeanSound.T11.2 compasslaw11_ProofMeanSound.B11 = true := by kernel_rfl
set_option maxHeartbeats 8000000 in
set_option maxRecDepth 100000 in
theorem compasslaw11_ProofMeanSound.calls (k : Nat) (a0_0 : Int) (A0_1 : Option Addr) (c0_1 : Nat) (l0_1 : List (S98)) (A1_0 : Option Addr) (c1_0 : Nat) (l1_0 : List Int) (A1_1 : Option Addr) (c1_1 : Nat) (l1_1 : List Int) (A2_0 : Option Addr) (c2_0 : Nat) (l2_0 : List Int) (A2_1 : Option Addr) (c2_1 : Nat) (l2_1 : List Int) (r : Bool) (w : World) (hr0_1 : Kd.C k98 w A0_1 l0_1.length l0_1) (hc0_1 : l0_1.length ≤ c0_1) (hr1_0 : Kd.C (Kd.int .i64) w A1_0 l1_0.length l1_0) (hc1_0 : l1_0.length ≤ c1_0) (hr1_1 : Kd.C (Kd.int .i64) w A1_1 l1_1.length l1_1) (hc1_1 : l1_1.length ≤ c1_1) (hr2_0 : Kd.C (Kd.int .i64) w A2_0 l2_0.length l2_0) (hc2_0 : l2_0.length ≤ c2_0) (hr2_1 : Kd.C (Kd.int .i64) w A2_1 l2_1.length l2_1) (hc2_1 : l2_1.length ≤ c2_1) (hr_ : r = true) (h : compasslaw11_ProofMeanSound.f k a0_0 l0_1 l1_0 l1_1 l2_0 l2_1 = some r) :
    Calls Try.prog 14 #[.agg #[.int .i64 a0_0, .slice A0_1 l0_1.length c0_1], .agg #[.slice A1_0 l1_0.length c1_0, .slice A1_1 l1_1.length c1_1], .agg #[.slice A2_0 l2_0.length c2_0, .slice A2_1 l2_1.length c2_1]] w fun e w' => e = .returned (.bool r) ∧ Below w.heap.size w w' := by
 have hu24 := Try.underlying24
 have hu72 := Try.underlying72
 have hu89 := Try.underlying89
 have hu74 := Try.underlying74
 have HR0_1 := ak hr0_1
 have HC0_1 := ak hc0_1
 clear hr0_1 hc0_1
 have HR1_0 := ak hr1_0
 have HC1_0 := ak hc1_0
 clear hr1_0 hc1_0
 have HR1_1 := ak hr1_1
 have HC1_1 := ak hc1_1
 clear hr1_1 hc1_1
 have HR2_0 := ak hr2_0
 have HC2_0 := ak hc2_0
 clear hr2_0 hc2_0
 have HR2_1 := ak hr2_1
 have HC2_1 := ak hc2_1
 clear hr2_1 hc2_1
 have HB := ak (Below.refl w.heap.size w)
 have HR_ := ak hr_
 clear hr_
 have H : ((compasslaw11_awake.f k).bind fun t584 => (if t584 = true then ((proof_Mean.f k a0_0 l0_1 l1_0 l1_1).bind fun bt585 => ((proof_Acyclic.f k a0_0 l0_1 l2_1).bind fun t589 => ((compassref03_Check.f k a0_0 l0_1).bind fun bt590 => (if bt590.1 = 0 then ((compassref04_Circle.f k a0_0 l0_1 l2_0).bind fun t592 => (compasslaw11_ProofMeanSound.j0 k bt585.2.2 t589 t592 a0_0 l0_1 l2_0 l2_1 bt585.1 bt585.2.1)) else (compasslaw11_ProofMeanSound.j0 k bt585.2.2 t589 false a0_0 l0_1 l2_0 l2_1 bt585.1 bt585.2.1))))) else (some false))) = some r := h
 clear h
 replace H := Option.bind_eq_some_iff.mp H
 obtain ⟨t584, A40, H⟩ := H
 replace H : (if t584 = true then ((proof_Mean.f k a0_0 l0_1 l1_0 l1_1).bind fun bt585 => ((proof_Acyclic.f k a0_0 l0_1 l2_1).bind fun t589 => ((compassref03_Check.f k a0_0 l0_1).bind fun bt590 => (if bt590.1 = 0 then ((compassref04_Circle.f k a0_0 l0_1 l2_0).bind fun t592 => (compasslaw11_ProofMeanSound.j0 k bt585.2.2 t589 t592 a0_0 l0_1 l2_0 l2_1 bt585.1 bt585.2.1)) else (compasslaw11_ProofMeanSound.j0 k bt585.2.2 t589 false a0_0 l0_1 l2_0 l2_1 bt585.1 bt585.2.1))))) else (some false)) = some r := H
 have A4 := ak A40
 clear A40
 by_cases c5 : t584 = true
 rotate_left
 ·
  replace c5 := Bool.eq_false_iff.mpr c5
  subst c5
  have H1 : (some false) = some r := by rw [if_neg (show ¬ (false = true) by decide)] at H; exact H
  clear H
  have H := H1
  clear H1
  exact absurd ((Option.some.inj H).trans HR_.out) (by decide)

 subst c5
 have H1 : ((proof_Mean.f k a0_0 l0_1 l1_0 l1_1).bind fun bt585 => ((proof_Acyclic.f k a0_0 l0_1 l2_1).bind fun t589 => ((compassref03_Check.f k a0_0 l0_1).bind fun bt590 => (if bt590.1 = 0 then ((compassref04_Circle.f k a0_0 l0_1 l2_0).bind fun t592 => (compasslaw11_ProofMeanSound.j0 k bt585.2.2 t589 t592 a0_0 l0_1 l2_0 l2_1 bt585.1 bt585.2.1)) else (compasslaw11_ProofMeanSound.j0 k bt585.2.2 t589 false a0_0 l0_1 l2_0 l2_1 bt585.1 bt585.2.1))))) = some r := by rw [if_pos rfl] at H; exact H
 clear H
 have H := H1
 clear H1
 replace H := Option.bind_eq_some_iff.mp H
 obtain ⟨⟨t585, t586, t587⟩, A60, H⟩ := H
 replace H : ((proof_Acyclic.f k a0_0 l0_1 l2_1).bind fun t589 => ((compassref03_Check.f k a0_0 l0_1).bind fun bt590 => (if bt590.1 = 0 then ((compassref04_Circle.f k a0_0 l0_1 l2_0).bind fun t592 => (compasslaw11_ProofMeanSound.j0 k t587 t589 t592 a0_0 l0_1 l2_0 l2_1 t585 t586)) else (compasslaw11_ProofMeanSound.j0 k t587 t589 false a0_0 l0_1 l2_0 l2_1 t585 t586)))) = some r := H
 have A6 := ak A60
 clear A60
 replace H := Option.bind_eq_some_iff.mp H
 obtain ⟨t589, A70, H⟩ := H
 replace H : ((compassref03_Check.f k a0_0 l0_1).bind fun bt590 => (if bt590.1 = 0 then ((compassref04_Circle.f k a0_0 l0_1 l2_0).bind fun t592 => (compasslaw11_ProofMeanSound.j0 k t587 t589 t592 a0_0 l0_1 l2_0 l2_1 t585 t586)) else (compasslaw11_ProofMeanSound.j0 k t587 t589 false a0_0 l0_1 l2_0 l2_1 t585 t586))) = some r := H
 have A7 := ak A70
 clear A70
 replace H := Option.bind_eq_some_iff.mp H
 obtain ⟨⟨t590, t591⟩, A80, H⟩ := H
 replace H : (if t590 = 0 then ((compassref04_Circle.f k a0_0 l0_1 l2_0).bind fun t592 => (compasslaw11_ProofMeanSound.j0 k t587 t589 t592 a0_0 l0_1 l2_0 l2_1 t585 t586)) else (compasslaw11_ProofMeanSound.j0 k t587 t589 false a0_0 l0_1 l2_0 l2_1 t585 t586)) = some r := H
 have A8 := ak A80
 clear A80
 have HC9 := ak H
 clear H
 go_enter Try.func14, Try.ntmps14
 go_upto_region 6 with (first | ((with_reducible refine gate_dst (N := 3) rfl ?_); refine bxe 3 #[.int .i64 a0_0, .slice A0_1 l0_1.length c0_1] 24 ?_; intro gb581 hg w10 hbox hb; have n0_ := ak (bl hb); have n1_ := ak (hbox); have n2_ := ak ((by rw [hg]; exact (below_size lb) : w.heap.size ≤ gb581)); have n3_ := ak ((by rw [hg]; exact (below_size lb) : w.heap.size ≤ gb581)); clear HB; have HB := n0_; have BK581 := n1_; have GW581 := n2_; have GE581 := n3_; clear n0_ n1_ n2_ n3_; clear hb hbox hg) | ((with_reducible refine gate_dst (N := 4) rfl ?_); refine bxe 4 #[.slice A1_0 l1_0.length c1_0, .slice A1_1 l1_1.length c1_1] 72 ?_; intro gb582 hg w11 hbox hb; have n0_ := ak (bo BK581 hb); have n1_ := ak (bl hb); have n2_ := ak (hbox); have n3_ := ak ((by rw [hg]; exact (below_size lb) : w.heap.size ≤ gb582)); have n4_ := ak ((by rw [hg]; exact (below_size lb) : w.heap.size ≤ gb582)); have n5_ := ak ((by rw [hg]; exact Nat.ne_of_lt (blk_lt (g := gb581) (o := .cells #[.int .i64 a0_0, .slice A0_1 l0_1.length c0_1] 24 (0, 0)) (bx BK581.out)) : gb581 ≠ gb582)); have n6_ := ak ((by rw [hg]; exact Nat.ne_of_gt (blk_lt (g := gb581) (o := .cells #[.int .i64 a0_0, .slice A0_1 l0_1.length c0_1] 24 (0, 0)) (bx BK581.out)) : gb582 ≠ gb581)); clear BK581; clear HB; have BK581 := n0_; have HB := n1_; have BK582 := n2_; have GW582 := n3_; have GE582 := n4_; have NB581_582 := n5_; have NB582_581 := n6_; clear n0_ n1_ n2_ n3_ n4_ n5_ n6_; clear hb hbox hg) | ((with_reducible refine gate_dst (N := 5) rfl ?_); refine bxe 5 #[.slice A2_0 l2_0.length c2_0, .slice A2_1 l2_1.length c2_1] 89 ?_; intro gb583 hg w12 hbox hb; have n0_ := ak (bo BK581 hb); have n1_ := ak (bo BK582 hb); have n2_ := ak (bl hb); have n3_ := ak (hbox); have n4_ := ak ((by rw [hg]; exact (below_size lb) : w.heap.size ≤ gb583)); have n5_ := ak ((by rw [hg]; exact (below_size lb) : w.heap.size ≤ gb583)); have n6_ := ak ((by rw [hg]; exact Nat.ne_of_lt (blk_lt (g := gb581) (o := .cells #[.int .i64 a0_0, .slice A0_1 l0_1.length c0_1] 24 (0, 0)) (bx BK581.out)) : gb581 ≠ gb583)); have n7_ := ak ((by rw [hg]; exact Nat.ne_of_gt (blk_lt (g := gb581) (o := .cells #[.int .i64 a0_0, .slice A0_1 l0_1.length c0_1] 24 (0, 0)) (bx BK581.out)) : gb583 ≠ gb581)); have n8_ := ak ((by rw [hg]; exact Nat.ne_of_lt (blk_lt (g := gb582) (o := .cells #[.slice A1_0 l1_0.length c1_0, .slice A1_1 l1_1.length c1_1] 72 (0, 0)) (bx BK582.out)) : gb582 ≠ gb583)); have n9_ := ak ((by rw [hg]; exact Nat.ne_of_gt (blk_lt (g := gb582) (o := .cells #[.slice A1_0 l1_0.length c1_0, .slice A1_1 l1_1.length c1_1] 72 (0, 0)) (bx BK582.out)) : gb583 ≠ gb582)); clear BK581; clear BK582; clear HB; have BK581 := n0_; have BK582 := n1_; have HB := n2_; have BK583 := n3_; have GW583 := n4_; have GE583 := n5_; have NB581_583 := n6_; have NB583_581 := n7_; have NB582_583 := n8_; have NB583_582 := n9_; clear n0_ n1_ n2_ n3_ n4_ n5_ n6_ n7_ n8_ n9_; clear hb hbox hg) | ((with_reducible refine gate_callee (f := 15) rfl ?_); refine gl 15 Try.func15 #[] ?_; (with_reducible refine (compasslaw11_awake.calls k true _ rfl A4.out).mono ?_); rintro e w13 ⟨rfl, hb⟩; refine ⟨_, rfl, ?_⟩; have n0_ := ak (bo BK581 hb); have n1_ := ak (bo BK582 hb); have n2_ := ak (bo BK583 hb); have n3_ := ak (bl hb); clear BK581; clear BK582; clear BK583; clear HB; have BK581 := n0_; have BK582 := n1_; have BK583 := n2_; have HB := n3_; clear n0_ n1_ n2_ n3_; clear hb; have ⟨_, _⟩ := nn NB581_582; have ⟨_, _⟩ := nn NB581_583; have hcz16_0 : w13.cell? ⟨gb581, 0, none⟩ = some (.int .i64 a0_0) := (blk_cell BK581.out 0).trans rfl; have hcz16_1 : w13.cell? ⟨gb581, 1, none⟩ = some (.slice A0_1 l0_1.length c0_1) := (blk_cell BK581.out 1).trans rfl; have hfz16_0 := blk_frozen BK581.out 0; have hfz16_1 := blk_frozen BK581.out 1; have ⟨_, _⟩ := nn NB582_583; have hcz18_0 : w13.cell? ⟨gb582, 0, none⟩ = some (.slice A1_0 l1_0.length c1_0) := (blk_cell BK582.out 0).trans rfl; have hcz18_1 : w13.cell? ⟨gb582, 1, none⟩ = some (.slice A1_1 l1_1.length c1_1) := (blk_cell BK582.out 1).trans rfl; have hfz18_0 := blk_frozen BK582.out 0; have hfz18_1 := blk_frozen BK582.out 1) | ((with_reducible refine gate_callee (f := 37) rfl ?_); refine gl 20 Try.func37 #[.agg #[.int .i64 a0_0, .slice A0_1 l0_1.length c0_1], .agg #[.slice A1_0 l1_0.length c1_0, .slice A1_1 l1_1.length c1_1]] ?_; (with_reducible refine (proof_Mean.calls k a0_0 _ _ l0_1 _ _ l1_0 _ _ l1_1 t585 t586 t587 _ (Kd.C_below HR0_1.out lb) HC0_1.out (Kd.C_below HR1_0.out lb) HC1_0.out (Kd.C_below HR1_1.out lb) HC1_1.out A6.out).mono ?_); rintro e w19 ⟨rfl, hb⟩; refine ⟨_, rfl, ?_⟩; have n0_ := ak (bo BK581 hb); have n1_ := ak (bo BK582 hb); have n2_ := ak (bo BK583 hb); have n3_ := ak (bl hb); clear BK581; clear BK582; clear BK583; clear HB; have BK581 := n0_; have BK582 := n1_; have BK583 := n2_; have HB := n3_; clear n0_ n1_ n2_ n3_; clear hb) | ((with_reducible refine gate_dst (N := 7) rfl ?_); refine bxe 7 #[.int .i64 0, .int .i64 0] 74 ?_; intro gb588 hg w20 hbox hb; have n0_ := ak (bo BK581 hb); have n1_ := ak (bo BK582 hb); have n2_ := ak (bo BK583 hb); have n3_ := ak (bl hb); have n4_ := ak (hbox); have n5_ := ak ((by rw [hg]; exact (below_size lb) : w.heap.size ≤ gb588)); have n6_ := ak ((by rw [hg]; exact (below_size lb) : w.heap.size ≤ gb588)); have n7_ := ak ((by rw [hg]; exact Nat.ne_of_lt (blk_lt (g := gb581) (o := .cells #[.int .i64 a0_0, .slice A0_1 l0_1.length c0_1] 24 (0, 0)) (bx BK581.out)) : gb581 ≠ gb588)); have n8_ := ak ((by rw [hg]; exact Nat.ne_of_gt (blk_lt (g := gb581) (o := .cells #[.int .i64 a0_0, .slice A0_1 l0_1.length c0_1] 24 (0, 0)) (bx BK581.out)) : gb588 ≠ gb581)); have n9_ := ak ((by rw [hg]; exact Nat.ne_of_lt (blk_lt (g := gb582) (o := .cells #[.slice A1_0 l1_0.length c1_0, .slice A1_1 l1_1.length c1_1] 72 (0, 0)) (bx BK582.out)) : gb582 ≠ gb588)); have n10_ := ak ((by rw [hg]; exact Nat.ne_of_gt (blk_lt (g := gb582) (o := .cells #[.slice A1_0 l1_0.length c1_0, .slice A1_1 l1_1.length c1_1] 72 (0, 0)) (bx BK582.out)) : gb588 ≠ gb582)); have n11_ := ak ((by rw [hg]; exact Nat.ne_of_lt (blk_lt (g := gb583) (o := .cells #[.slice A2_0 l2_0.length c2_0, .slice A2_1 l2_1.length c2_1] 89 (0, 0)) (bx BK583.out)) : gb583 ≠ gb588)); have n12_ := ak ((by rw [hg]; exact Nat.ne_of_gt (blk_lt (g := gb583) (o := .cells #[.slice A2_0 l2_0.length c2_0, .slice A2_1 l2_1.length c2_1] 89 (0, 0)) (bx BK583.out)) : gb588 ≠ gb583)); clear BK581; clear BK582; clear BK583; clear HB; have BK581 := n0_; have BK582 := n1_; have BK583 := n2_; have HB := n3_; have BK588 := n4_; have GW588 := n5_; have GE588 := n6_; have NB581_588 := n7_; have NB588_581 := n8_; have NB582_588 := n9_; have NB588_582 := n10_; have NB583_588 := n11_; have NB588_583 := n12_; clear n0_ n1_ n2_ n3_ n4_ n5_ n6_ n7_ n8_ n9_ n10_ n11_ n12_; clear hb hbox hg; have ⟨_, _⟩ := nn NB588_581; have ⟨_, _⟩ := nn NB588_582; have ⟨_, _⟩ := nn NB588_583; have hcz24_0 : w20.cell? ⟨gb588, 0, none⟩ = some (.int .i64 0) := (blk_cell BK588.out 0).trans rfl; have hcz24_1 : w20.cell? ⟨gb588, 1, none⟩ = some (.int .i64 0) := (blk_cell BK588.out 1).trans rfl; have hfz24_0 := blk_frozen BK588.out 0; have hfz24_1 := blk_frozen BK588.out 1; have hcz25_0 : w20.cell? ⟨gb581, 0, none⟩ = some (.int .i64 a0_0) := (blk_cell BK581.out 0).trans rfl; have hcz25_1 : w20.cell? ⟨gb581, 1, none⟩ = some (.slice A0_1 l0_1.length c0_1) := (blk_cell BK581.out 1).trans rfl; have hfz25_0 := blk_frozen BK581.out 0; have hfz25_1 := blk_frozen BK581.out 1; have hcz26_0 : w20.cell? ⟨gb583, 0, none⟩ = some (.slice A2_0 l2_0.length c2_0) := (blk_cell BK583.out 0).trans rfl; have hcz26_1 : w20.cell? ⟨gb583, 1, none⟩ = some (.slice A2_1 l2_1.length c2_1) := (blk_cell BK583.out 1).trans rfl; have hfz26_0 := blk_frozen BK583.out 0; have hfz26_1 := blk_frozen BK583.out 1) | ((with_reducible refine gate_callee (f := 39) rfl ?_); refine gl 26 Try.func39 #[.agg #[.int .i64 a0_0, .slice A0_1 l0_1.length c0_1], .slice A2_1 l2_1.length c2_1] ?_; (with_reducible refine (proof_Acyclic.calls k a0_0 _ _ l0_1 _ _ l2_1 t589 _ (Kd.C_below HR0_1.out lb) HC0_1.out (Kd.C_below HR2_1.out lb) HC2_1.out A7.out).mono ?_); rintro e w27 ⟨rfl, hb⟩; refine ⟨_, rfl, ?_⟩; have n0_ := ak (blk_below (g := gb581) (o := .cells #[.int .i64 a0_0, .slice A0_1 l0_1.length c0_1] 24 (0, 0)) (by (with_reducible repeat (first | refine blk_drewN ?_ _ | refine blk_drew ?_ | refine blk_alloc ?_ _)); refine blk_far ?_ NB581_588.out _; (with_reducible repeat (first | refine blk_drewN ?_ _ | refine blk_drew ?_ | refine blk_alloc ?_ _)); refine blk_far ?_ NB581_588.out _; exact bx BK581.out) hb); have n1_ := ak (blk_below (g := gb582) (o := .cells #[.slice A1_0 l1_0.length c1_0, .slice A1_1 l1_1.length c1_1] 72 (0, 0)) (by (with_reducible repeat (first | refine blk_drewN ?_ _ | refine blk_drew ?_ | refine blk_alloc ?_ _)); refine blk_far ?_ NB582_588.out _; (with_reducible repeat (first | refine blk_drewN ?_ _ | refine blk_drew ?_ | refine blk_alloc ?_ _)); refine blk_far ?_ NB582_588.out _; exact bx BK582.out) hb); have n2_ := ak (blk_below (g := gb583) (o := .cells #[.slice A2_0 l2_0.length c2_0, .slice A2_1 l2_1.length c2_1] 89 (0, 0)) (by (with_reducible repeat (first | refine blk_drewN ?_ _ | refine blk_drew ?_ | refine blk_alloc ?_ _)); refine blk_far ?_ NB583_588.out _; (with_reducible repeat (first | refine blk_drewN ?_ _ | refine blk_drew ?_ | refine blk_alloc ?_ _)); refine blk_far ?_ NB583_588.out _; exact bx BK583.out) hb); have n3_ := ak (blk_below (g := gb588) (o := .cells #[.int .i64 t585, .int .i64 t586] 74 (0, 0)) (by (with_reducible repeat (first | refine blk_drewN ?_ _ | refine blk_drew ?_ | refine blk_alloc ?_ _)); refine blk_put (cs := #[.int .i64 t585, .int .i64 0]) ?_ 1 _ rfl; (with_reducible repeat (first | refine blk_drewN ?_ _ | refine blk_drew ?_ | refine blk_alloc ?_ _)); refine blk_put (cs := #[.int .i64 0, .int .i64 0]) ?_ 0 _ rfl; exact bx BK588.out) hb); have n4_ := ak (bl hb); clear BK581; clear BK582; clear BK583; clear BK588; clear HB; have BK581 := n0_; have BK582 := n1_; have BK583 := n2_; have BK588 := n3_; have HB := n4_; clear n0_ n1_ n2_ n3_ n4_; clear hb; have hcz28_0 : w27.cell? ⟨gb581, 0, none⟩ = some (.int .i64 a0_0) := (blk_cell BK581.out 0).trans rfl; have hcz28_1 : w27.cell? ⟨gb581, 1, none⟩ = some (.slice A0_1 l0_1.length c0_1) := (blk_cell BK581.out 1).trans rfl; have hfz28_0 := blk_frozen BK581.out 0; have hfz28_1 := blk_frozen BK581.out 1) | ((with_reducible refine gate_callee (f := 44) rfl ?_); refine gl 29 Try.func44 #[.agg #[.int .i64 a0_0, .slice A0_1 l0_1.length c0_1]] ?_; (with_reducible refine (compassref03_Check.calls k a0_0 _ _ l0_1 t590 t591 _ (Kd.C_below HR0_1.out lb) HC0_1.out A8.out).mono ?_); rintro e w29 ⟨rfl, hb⟩; refine ⟨_, rfl, ?_⟩; have n0_ := ak (bo BK581 hb); have n1_ := ak (bo BK582 hb); have n2_ := ak (bo BK583 hb); have n3_ := ak (bo BK588 hb); have n4_ := ak (bl hb); clear BK581; clear BK582; clear BK583; clear BK588; clear HB; have BK581 := n0_; have BK582 := n1_; have BK583 := n2_; have BK588 := n3_; have HB := n4_; clear n0_ n1_ n2_ n3_ n4_; clear hb))
 (try simp only [Act.put, List.setIfInBounds_toArray, List.set_cons_zero, List.set_cons_succ])
 go_cut [12] (fun v12 wc => ∃ (kq : Nat) (x12_8 : Bool), v12 = .bool x12_8 ∧ Aside0 (compasslaw11_ProofMeanSound.j0 kq t587 t589 x12_8 a0_0 l0_1 l2_0 l2_1 t585 t586 = some r) ∧ Aside0 (kq ≤ k) ∧ Aside0 (wc.heap[gb581]? = some (.cells #[.int .i64 a0_0, (.slice A0_1 l0_1.length c0_1)] 24 (0, 0))) ∧ Aside0 (wc.heap[gb582]? = some (.cells #[(.slice A1_0 l1_0.length c1_0), (.slice A1_1 l1_1.length c1_1)] 72 (0, 0))) ∧ Aside0 (wc.heap[gb583]? = some (.cells #[(.slice A2_0 l2_0.length c2_0), (.slice A2_1 l2_1.length c2_1)] 89 (0, 0))) ∧ Aside0 (wc.heap[gb588]? = some (.cells #[.int .i64 t585, .int .i64 t586] 74 (0, 0))) ∧ Aside0 (Below w.heap.size w wc))
 case first =>
  have H := HC9.out
  clear HC9
  by_cases c30 : t590 = 0
  rotate_left
  ·
   rw [if_neg c30] at H
   have c30b0 := bn c30
   have c30b1 : (t590 != 0) = true := bne_iff_ne.mpr c30
   (first | rw [c30b0] | (simp only [i64_w, i32_w]; rw [c30b0]) | skip)
   have H' := ak H
   clear H
   go_wp2
   go_meet
   case rel => exact ⟨_, (false), sr, H', ⟨by first | omega | exact Nat.le_refl _⟩, xb BK581, xb BK582, xb BK583, xb BK588, ⟨lb⟩⟩
  rw [if_pos c30] at H
  have c30b0 := be c30
  have c30b1 : (t590 != 0) = false := bne_eq_false_iff_eq.mpr c30
  clear c30
  (first | rw [c30b0] | (simp only [i64_w, i32_w]; rw [c30b0]) | skip)
  replace H := Option.bind_eq_some_iff.mp H
  obtain ⟨t592, A310, H⟩ := H
  replace H : (compasslaw11_ProofMeanSound.j0 k t587 t589 t592 a0_0 l0_1 l2_0 l2_1 t585 t586) = some r := H
  have A31 := ak A310
  clear A310
  have H' := ak H
  clear H
  have hnb32 := NB581_582.out
  have hnc32 := NB582_581.out
  have hnb33 := NB581_583.out
  have hnc33 := NB583_581.out
  have hnb34 := NB581_588.out
  have hnc34 := NB588_581.out
  have hcz35_0 : w29.cell? ⟨gb581, 0, none⟩ = some (.int .i64 a0_0) := (blk_cell BK581.out 0).trans rfl
  have hcz35_1 : w29.cell? ⟨gb581, 1, none⟩ = some (.slice A0_1 l0_1.length c0_1) := (blk_cell BK581.out 1).trans rfl
  have hfz35_0 := blk_frozen BK581.out 0
  have hfz35_1 := blk_frozen BK581.out 1
  have hnb36 := NB583_582.out
  have hnc36 := NB582_583.out
  have hnb37 := NB583_588.out
  have hnc37 := NB588_583.out
  have hcz38_0 : w29.cell? ⟨gb583, 0, none⟩ = some (.slice A2_0 l2_0.length c2_0) := (blk_cell BK583.out 0).trans rfl
  have hcz38_1 : w29.cell? ⟨gb583, 1, none⟩ = some (.slice A2_1 l2_1.length c2_1) := (blk_cell BK583.out 1).trans rfl
  have hfz38_0 := blk_frozen BK583.out 0
  have hfz38_1 := blk_frozen BK583.out 1
  go_wp2_with (first | (go_at_call 45; (with_reducible refine (compassref04_Circle.calls k a0_0 _ _ l0_1 _ _ l2_0 t592 _ (Kd.C_below HR0_1.out lb) HC0_1.out (Kd.C_below HR2_0.out lb) HC2_0.out A31.out).mono ?_); rintro e w39 ⟨rfl, hb⟩; have n0_ := ak (bo BK581 hb); have n1_ := ak (bo BK582 hb); have n2_ := ak (bo BK583 hb); have n3_ := ak (bo BK588 hb); have n4_ := ak (bl hb); clear BK581; clear BK582; clear BK583; clear BK588; clear HB; have BK581 := n0_; have BK582 := n1_; have BK583 := n2_; have BK588 := n3_; have HB := n4_; clear n0_ n1_ n2_ n3_ n4_; clear hb))
  go_meet
  case rel => exact ⟨_, (t592), sr, H', ⟨by first | omega | exact Nat.le_refl _⟩, xb BK581, xb BK582, xb BK583, xb BK588, ⟨lb⟩⟩
 case rest =>
  clear HC9
  try clear c1; try clear c2; try clear p2; try clear c3; try clear c4; try clear c5; try clear c14; try clear c15; try clear c17; try clear c21; try clear c22; try clear c23; try clear c30; try clear c30b0; try clear c30b1; try clear c32; try clear c33; try clear c34; try clear c36; try clear c37; try clear c39; try clear hcz16_0; try clear hcz16_1; try clear hcz18_0; try clear hcz18_1; try clear hcz24_0; try clear hcz24_1; try clear hcz25_0; try clear hcz25_1; try clear hcz26_0; try clear hcz26_1; try clear hcz28_0; try clear hcz28_1; try clear hcz35_0; try clear hcz35_1; try clear hcz38_0; try clear hcz38_1; try clear hfz16_0; try clear hfz16_1; try clear hfz18_0; try clear hfz18_1; try clear hfz24_0; try clear hfz24_1; try clear hfz25_0; try clear hfz25_1; try clear hfz26_0; try clear hfz26_1; try clear hfz28_0; try clear hfz28_1; try clear hfz35_0; try clear hfz35_1; try clear hfz38_0; try clear hfz38_1
  obtain ⟨kq, x12_8, rfl, HA, HJ8, BK581, BK582, BK583, BK588, HB⟩ := hcut
  cases kq with
  | zero => exact absurd HA.out (by simp [compasslaw11_ProofMeanSound.j0])
  | succ kj8 =>
   have H := HA.out
   clear HA
   simp only [compasslaw11_ProofMeanSound.j0] at H
   have HC40 := ak H
   clear H
   go_upto_region 7 with (fail)
   go_cut [48] (fun v48 wc => ∃ (kq : Nat) (x48_39 : Bool), v48 = .bool x48_39 ∧ Aside0 (compasslaw11_ProofMeanSound.j1 kq t587 x12_8 x48_39 a0_0 l0_1 l2_0 l2_1 t585 t586 = some r) ∧ Aside0 (kq ≤ kj8) ∧ Aside0 (wc.heap[gb581]? = some (.cells #[.int .i64 a0_0, (.slice A0_1 l0_1.length c0_1)] 24 (0, 0))) ∧ Aside0 (wc.heap[gb582]? = some (.cells #[(.slice A1_0 l1_0.length c1_0), (.slice A1_1 l1_1.length c1_1)] 72 (0, 0))) ∧ Aside0 (wc.heap[gb583]? = some (.cells #[(.slice A2_0 l2_0.length c2_0), (.slice A2_1 l2_1.length c2_1)] 89 (0, 0))) ∧ Aside0 (wc.heap[gb588]? = some (.cells #[.int .i64 t585, .int .i64 t586] 74 (0, 0))) ∧ Aside0 (Below w.heap.size w wc))
   case first =>
    have H := HC40.out
    clear HC40
    by_cases c41 : t589 = 0
    rotate_left
    ·
     rw [if_neg c41] at H
     have c41b0 := bn c41
     have c41b1 : (t589 != 0) = true := bne_iff_ne.mpr c41
     (first | rw [c41b0] | (simp only [i64_w, i32_w]; rw [c41b0]) | skip)
     have H' := ak H
     clear H
     go_wp2
     go_meet
     case rel => exact ⟨_, (false), sr, H', ⟨by have := HJ8.out; first | omega | exact Nat.le_refl _⟩, xb BK581, xb BK582, xb BK583, xb BK588, ⟨lb⟩⟩
    rw [if_pos c41] at H
    have c41b0 := be c41
    have c41b1 : (t589 != 0) = false := bne_eq_false_iff_eq.mpr c41
    clear c41
    (first | rw [c41b0] | (simp only [i64_w, i32_w]; rw [c41b0]) | skip)
    by_cases c42 : t587 = 0
    rotate_left
    ·
     rw [if_neg c42] at H
     have c42b0 := bn c42
     have c42b1 : (t587 != 0) = true := bne_iff_ne.mpr c42
     have H' := ak H
     clear H
     go_wp2
     go_meet
     case rel => exact ⟨_, (x12_8), sr, H', ⟨by have := HJ8.out; first | omega | exact Nat.le_refl _⟩, xb BK581, xb BK582, xb BK583, xb BK588, ⟨lb⟩⟩
    rw [if_pos c42] at H
    have c42b0 := be c42
    have c42b1 : (t587 != 0) = false := bne_eq_false_iff_eq.mpr c42
    clear c42
    have H' := ak H
    clear H
    go_wp2
    go_meet
    case rel => exact ⟨_, (true), sr, H', ⟨by have := HJ8.out; first | omega | exact Nat.le_refl _⟩, xb BK581, xb BK582, xb BK583, xb BK588, ⟨lb⟩⟩
   case rest =>
    clear HC40
    try clear c1; try clear c2; try clear p2; try clear c3; try clear c4; try clear c5; try clear c14; try clear c15; try clear c17; try clear c21; try clear c22; try clear c23; try clear c30; try clear c30b0; try clear c30b1; try clear c32; try clear c33; try clear c34; try clear c36; try clear c37; try clear c39; try clear c41; try clear c41b0; try clear c41b1; try clear c42; try clear c42b0; try clear c42b1; try clear hcz16_0; try clear hcz16_1; try clear hcz18_0; try clear hcz18_1; try clear hcz24_0; try clear hcz24_1; try clear hcz25_0; try clear hcz25_1; try clear hcz26_0; try clear hcz26_1; try clear hcz28_0; try clear hcz28_1; try clear hcz35_0; try clear hcz35_1; try clear hcz38_0; try clear hcz38_1; try clear hfz16_0; try clear hfz16_1; try clear hfz18_0; try clear hfz18_1; try clear hfz24_0; try clear hfz24_1; try clear hfz25_0; try clear hfz25_1; try clear hfz26_0; try clear hfz26_1; try clear hfz28_0; try clear hfz28_1; try clear hfz35_0; try clear hfz35_1; try clear hfz38_0; try clear hfz38_1; try clear p2
    obtain ⟨kq, x48_39, rfl, HA, HJ39, BK581, BK582, BK583, BK588, HB⟩ := hcut
    cases kq with
    | zero => exact absurd HA.out (by simp [compasslaw11_ProofMeanSound.j1])
    | succ kj39 =>
     have H := HA.out
     clear HA
     simp only [compasslaw11_ProofMeanSound.j1] at H
     by_cases c43 : x48_39 = true
     ·
      subst c43
      have H1 : (some false) = some r := by rw [if_pos rfl] at H; exact H
      clear H
      have H := H1
      clear H1
      exact absurd ((Option.some.inj H).trans HR_.out) (by decide)
     replace c43 := Bool.eq_false_iff.mpr c43
     subst c43
     have H1 : (if t587 = 0 then (compasslaw11_ProofMeanSound.j2 kj39 t587 (!x12_8) a0_0 l0_1 l2_0 l2_1 t585 t586) else (compasslaw11_ProofMeanSound.j2 kj39 t587 true a0_0 l0_1 l2_0 l2_1 t585 t586)) = some r := by rw [if_neg (show ¬ (false = true) by decide)] at H; exact H
     clear H
     have H := H1
     clear H1
     have HC44 := ak H
     clear H
     go_upto_region 9 with (fail)
     go_cut [54] (fun v54 wc => ∃ (kq : Nat) (x54_43 : Bool), v54 = .bool x54_43 ∧ Aside0 (compasslaw11_ProofMeanSound.j2 kq t587 x54_43 a0_0 l0_1 l2_0 l2_1 t585 t586 = some r) ∧ Aside0 (kq ≤ kj39) ∧ Aside0 (wc.heap[gb581]? = some (.cells #[.int .i64 a0_0, (.slice A0_1 l0_1.length c0_1)] 24 (0, 0))) ∧ Aside0 (wc.heap[gb582]? = some (.cells #[(.slice A1_0 l1_0.length c1_0), (.slice A1_1 l1_1.length c1_1)] 72 (0, 0))) ∧ Aside0 (wc.heap[gb583]? = some (.cells #[(.slice A2_0 l2_0.length c2_0), (.slice A2_1 l2_1.length c2_1)] 89 (0, 0))) ∧ Aside0 (wc.heap[gb588]? = some (.cells #[.int .i64 t585, .int .i64 t586] 74 (0, 0))) ∧ Aside0 (Below w.heap.size w wc))
     case first =>
      have H := HC44.out
      clear HC44
      by_cases c45 : t587 = 0
      rotate_left
      ·
       rw [if_neg c45] at H
       have c45b0 := bn c45
       have c45b1 : (t587 != 0) = true := bne_iff_ne.mpr c45
       (first | rw [c45b0] | (simp only [i64_w, i32_w]; rw [c45b0]) | skip)
       have H' := ak H
       clear H
       go_wp2
       go_meet
       case rel => exact ⟨_, (true), sr, H', ⟨by have := HJ8.out; have := HJ39.out; first | omega | exact Nat.le_refl _⟩, xb BK581, xb BK582, xb BK583, xb BK588, ⟨lb⟩⟩
      rw [if_pos c45] at H
      have c45b0 := be c45
      have c45b1 : (t587 != 0) = false := bne_eq_false_iff_eq.mpr c45
      clear c45
      (first | rw [c45b0] | (simp only [i64_w, i32_w]; rw [c45b0]) | skip)
      have H' := ak H
      clear H
      go_wp2
      go_meet
      case rel => exact ⟨_, (!x12_8), sr, H', ⟨by have := HJ8.out; have := HJ39.out; first | omega | exact Nat.le_refl _⟩, xb BK581, xb BK582, xb BK583, xb BK588, ⟨lb⟩⟩
     case rest =>
      clear HC44
      try clear c1; try clear c2; try clear p2; try clear c3; try clear c4; try clear c5; try clear c14; try clear c15; try clear c17; try clear c21; try clear c22; try clear c23; try clear c30; try clear c30b0; try clear c30b1; try clear c32; try clear c33; try clear c34; try clear c36; try clear c37; try clear c39; try clear c41; try clear c41b0; try clear c41b1; try clear c42; try clear c42b0; try clear c42b1; try clear c43; try clear c44; try clear c45; try clear c45b0; try clear c45b1; try clear hcz16_0; try clear hcz16_1; try clear hcz18_0; try clear hcz18_1; try clear hcz24_0; try clear hcz24_1; try clear hcz25_0; try clear hcz25_1; try clear hcz26_0; try clear hcz26_1; try clear hcz28_0; try clear hcz28_1; try clear hcz35_0; try clear hcz35_1; try clear hcz38_0; try clear hcz38_1; try clear hfz16_0; try clear hfz16_1; try clear hfz18_0; try clear hfz18_1; try clear hfz24_0; try clear hfz24_1; try clear hfz25_0; try clear hfz25_1; try clear hfz26_0; try clear hfz26_1; try clear hfz28_0; try clear hfz28_1; try clear hfz35_0; try clear hfz35_1; try clear hfz38_0; try clear hfz38_1; try clear p2
      obtain ⟨kq, x54_43, rfl, HA, HJ43, BK581, BK582, BK583, BK588, HB⟩ := hcut
      cases kq with
      | zero => exact absurd HA.out (by simp [compasslaw11_ProofMeanSound.j2])
      | succ kj43 =>
       have H := HA.out
       clear HA
       simp only [compasslaw11_ProofMeanSound.j2] at H
       by_cases c46 : x54_43 = true
       ·
        subst c46
        have H1 : (if t587 = 0 then (some true) else (some (t585 == 0 && (t586 == 0)))) = some r := by rw [if_pos rfl] at H; exact H
        clear H
        have H := H1
        clear H1
        by_cases c47 : t587 = 0
        ·
         rw [if_pos c47] at H
         have c47b0 := be c47
         have c47b1 : (t587 != 0) = false := bne_eq_false_iff_eq.mpr c47
         clear c47
         obtain rfl := Option.some.inj H
         go_wp2
         go_ret
         exact ⟨er, lb⟩
        rw [if_neg c47] at H
        have c47b0 := bn c47
        have c47b1 : (t587 != 0) = true := bne_iff_ne.mpr c47
        obtain rfl := Option.some.inj H
        have hnb48 := NB588_581.out
        have hnc48 := NB581_588.out
        have hnb49 := NB588_582.out
        have hnc49 := NB582_588.out
        have hnb50 := NB588_583.out
        have hnc50 := NB583_588.out
        have hcz51_0 : wc.cell? ⟨gb588, 0, none⟩ = some (.int .i64 t585) := (blk_cell BK588.out 0).trans rfl
        have hcz51_1 : wc.cell? ⟨gb588, 1, none⟩ = some (.int .i64 t586) := (blk_cell BK588.out 1).trans rfl
        have hfz51_0 := blk_frozen BK588.out 0
        have hfz51_1 := blk_frozen BK588.out 1
        go_wp2
        go_ret
        exact ⟨er, lb⟩
       replace c46 := Bool.eq_false_iff.mpr c46
       subst c46
       have H1 : ((compassref08_Cost.f kj43 a0_0 l0_1 l2_0).bind fun t593 => ((safeint_Order.f kj43 t585 t586 t593 (l2_0.length : Int)).bind fun bt594 => (if bt594.2 = 0 then (some (decide (bt594.1 ≤ 0))) else (some false)))) = some r := by rw [if_neg (show ¬ (false = true) by decide)] at H; exact H
       clear H
       have H := H1
       clear H1
       replace H := Option.bind_eq_some_iff.mp H
       obtain ⟨t593, A520, H⟩ := H
       replace H : ((safeint_Order.f kj43 t585 t586 t593 (l2_0.length : Int)).bind fun bt594 => (if bt594.2 = 0 then (some (decide (bt594.1 ≤ 0))) else (some false))) = some r := H
       have A52 := ak A520
       clear A520
       replace H := Option.bind_eq_some_iff.mp H
       obtain ⟨⟨t594, t595⟩, A530, H⟩ := H
       replace H : (if t595 = 0 then (some (decide (t594 ≤ 0))) else (some false)) = some r := H
       have A53 := ak A530
       clear A530
       by_cases c54 : t595 = 0
       rotate_left
       ·
        rw [if_neg c54] at H
        have c54b0 := bn c54
        have c54b1 : (t595 != 0) = true := bne_iff_ne.mpr c54
        exact absurd ((Option.some.inj H).trans HR_.out) (by decide)
       rw [if_pos c54] at H
       have c54b0 := be c54
       have c54b1 : (t595 != 0) = false := bne_eq_false_iff_eq.mpr c54
       clear c54
       obtain rfl := Option.some.inj H
       try go_wp2
       have n0_ := ak (blk_drew BK581.out)
       have n1_ := ak (blk_drew BK582.out)
       have n2_ := ak (blk_drew BK583.out)
       have n3_ := ak (blk_drew BK588.out)
       have n4_ := ak (below_drew1 HB.out)
       clear BK581
       clear BK582
       clear BK583
       clear BK588
       clear HB
       have BK581 := n0_
       have BK582 := n1_
       have BK583 := n2_
       have BK588 := n3_
       have HB := n4_
       clear n0_ n1_ n2_ n3_ n4_
       refine stC 17 [] (cX (bc0 BK588) (cX (bc1 BK588) (cX (bc0 BK581) (cX (bc1 BK581) (cX (bc0 BK583) (cY (bc1 BK583))))))) compasslaw11_ProofMeanSound.tab11 compasslaw11_ProofMeanSound.bits11 fun hHeld HT_ HW_ => ?_
       generalize wc.drew = w55 at BK581 BK582 BK583 BK588 HB hHeld ⊢
       refine pv HT_ 0 63 ?_; refine pv HT_ 2 65 ?_; refine pv HT_ 5 68 ?_; refine pv HT_ 8 71 ?_; refine tv HT_ HW_ hHeld 1 64 ?_; refine tv HT_ HW_ hHeld 3 66 ?_; refine tv HT_ HW_ hHeld 4 67 ?_; refine tv HT_ HW_ hHeld 6 69 ?_; refine tv HT_ HW_ hHeld 9 72 ?_; refine pv HT_ 10 73 ?_
       refine one_ (i := 7) (N := some 70) #[true, true, true, true, true, true, true, true, true, true, true, false, false, false, false, false, false] rfl rfl (one_of HT_.out (by kernel_rfl)) (by decide) (fun K hK => ?_)
       refine goes_ Try.func47 (by kernel_rfl) rfl #[.agg #[.int .i64 a0_0, .slice A0_1 l0_1.length c0_1], .slice A2_0 l2_0.length c2_0] (by rfl) rfl rfl (by (try simp only [List.map_toArray, List.map_cons, List.map_nil]); first | done | rfl | (simp only [List.length_drop, List.length_take]; rfl)) ?_
       with_reducible refine (compassref08_Cost.calls kj43 a0_0 _ _ l0_1 _ _ l2_0 t593 _ (Kd.C_below HR0_1.out lb) HC0_1.out (Kd.C_below HR2_0.out lb) HC2_0.out A52.out).mono ?_
       rintro e w56 ⟨rfl, hb⟩
       refine ⟨_, rfl, ?_⟩
       have n0_ := ak (bo BK581 hb)
       have n1_ := ak (bo BK582 hb)
       have n2_ := ak (bo BK583 hb)
       have n3_ := ak (bo BK588 hb)
       have n4_ := ak (bl hb)
       clear BK581
       clear BK582
       clear BK583
       clear BK588
       clear HB
       have BK581 := n0_
       have BK582 := n1_
       have BK583 := n2_
       have BK588 := n3_
       have HB := n4_
       clear n0_ n1_ n2_ n3_ n4_
       (try clear hb)
       (try clear hb2)
       (try clear hk)
       (try clear hi)
       refine hK.out _ _ ⟨(blk_cell BK588.out 0).trans rfl, (blk_cell BK588.out 1).trans rfl, (blk_cell BK581.out 0).trans rfl, (blk_cell BK581.out 1).trans rfl, (blk_cell BK583.out 0).trans rfl, (blk_cell BK583.out 1).trans rfl⟩ (fun hHeld => ?_)
       clear hK K
       refine norm_ (a' := ?_) ?_ ?_
       rotate_left
       ·
        show Act.put _ (some 70) _ = _
        simp only [Act.put, List.setIfInBounds_toArray, List.set_cons_zero, List.set_cons_succ, i64_w, i32_w]
        rfl
       refine one_ (i := 11) (N := some 74) #[true, true, true, true, true, true, true, true, true, true, true, true, false, false, false, false, false] rfl rfl (one_of HT_.out (by kernel_rfl)) (by decide) (fun K hK => ?_)
       refine goes_ Try.func46 (by kernel_rfl) rfl #[.int .i64 t585, .int .i64 t586, .int .i64 t593, .int .i64 (l2_0.length : Int)] (by rfl) rfl rfl (by (try simp only [List.map_toArray, List.map_cons, List.map_nil]); first | done | rfl | (simp only [List.length_drop, List.length_take]; rfl)) ?_
       with_reducible refine (safeint_Order.calls kj43 t585 t586 t593 (l2_0.length : Int) t594 t595 _ A53.out).mono ?_
       rintro e w57 ⟨rfl, hb⟩
       refine ⟨_, rfl, ?_⟩
       have n0_ := ak (bo BK581 hb)
       have n1_ := ak (bo BK582 hb)
       have n2_ := ak (bo BK583 hb)
       have n3_ := ak (bo BK588 hb)
       have n4_ := ak (bl hb)
       clear BK581
       clear BK582
       clear BK583
       clear BK588
       clear HB
       have BK581 := n0_
       have BK582 := n1_
       have BK583 := n2_
       have BK588 := n3_
       have HB := n4_
       clear n0_ n1_ n2_ n3_ n4_
       (try clear hb)
       (try clear hb2)
       (try clear hk)
       (try clear hi)
       refine hK.out _ _ ⟨(blk_cell BK588.out 0).trans rfl, (blk_cell BK588.out 1).trans rfl, (blk_cell BK581.out 0).trans rfl, (blk_cell BK581.out 1).trans rfl, (blk_cell BK583.out 0).trans rfl, (blk_cell BK583.out 1).trans rfl⟩ (fun hHeld => ?_)
       clear hK K
       refine norm_ (a' := ?_) ?_ ?_
       rotate_left
       ·
        show Act.put _ (some 74) _ = _
        simp only [Act.put, List.setIfInBounds_toArray, List.set_cons_zero, List.set_cons_succ, i64_w, i32_w]
        rfl
       refine pv HT_ 12 62 ?_; refine pv HT_ 13 75 ?_; refine pv HT_ 14 76 ?_; refine pv HT_ 15 13 ?_; refine pv HT_ 16 14 ?_
       refine done_ (done_of HT_.out (by kernel_rfl)) ?_
       try go_wp2
       go_ret
       exact ⟨er, lb⟩
end Go.Proofs.Ytkdoihcjhccliaa.Q
