-- PRINTED by print.py (a twelfth state) out of the translation. Not trusted: Lean checks it.
import Derived.Test.YtkdoihcjhccliaaQ0
import Derived.Test.YtkdoihcjhccliaaQ16
import Derived.Test.YtkdoihcjhccliaaQ19
import Derived.Test.YtkdoihcjhccliaaQ27
import Derived.Test.YtkdoihcjhccliaaQ40
import Derived.Test.YtkdoihcjhccliaaQ47
namespace Go.Proofs.Ytkdoihcjhccliaa.Q
open Go.RowKit Go.Proofs.YtkdoihcjhccliaaW.PrintWords Go.Proofs.YtkdoihcjhccliaaW.PrintLast Go.Proofs.YtkdoihcjhccliaaW.PrintMore
attribute [local go_sem] max2_int min2_int max_two min_two max_three min_three max_four min_four   -- for this text's walks alone
set_option linter.unusedVariables false
set_option linter.unusedSimpArgs false

/-! ### compasslaw11_ProofRoundSound: function 9 -/
def compasslaw11_ProofRoundSound.j0 : Nat → Int → Int → Bool → Int → List (S98) → List Int → List Bool → Option (Bool)
  | 0, _, _, _, _, _, _, _ => none
  | k + 1, x7, x8, x27, x597000, x597001, x599000, x599001 => if x27 = true then (some false) else (if x8 = 0 then ((compassref11_Rounds.f k x597000 x597001 x599000).bind fun t603 => (if t603 = true then ((compassref11_Total.f k x597000 x597001 x599000).bind fun t604 => (some (decide (t604 ≥ x7)))) else (some true))) else (some (x7 == 0)))
def compasslaw11_ProofRoundSound.f (k : Nat) (a0_0 : Int) (l0_1 : List (S98)) (l1_0 : List Int) (l1_1 : List Int) (l2_0 : List Int) (l2_1 : List Bool) : Option (Bool) := (compasslaw11_awake.f k).bind fun t599 => (if t599 = true then ((proof_Postman.f k a0_0 l0_1 l1_0 l1_1).bind fun bt600 => ((proof_Apart.f k a0_0 l0_1 l2_1).bind fun t602 => (if t602 = 0 then (compasslaw11_ProofRoundSound.j0 k bt600.1 bt600.2 (bt600.2 == 0) a0_0 l0_1 l2_0 l2_1) else (compasslaw11_ProofRoundSound.j0 k bt600.1 bt600.2 false a0_0 l0_1 l2_0 l2_1)))) else (some false))
set_option maxHeartbeats 8000000 in
set_option maxRecDepth 100000 in
theorem compasslaw11_ProofRoundSound.calls (k : Nat) (a0_0 : Int) (A0_1 : Option Addr) (c0_1 : Nat) (l0_1 : List (S98)) (A1_0 : Option Addr) (c1_0 : Nat) (l1_0 : List Int) (A1_1 : Option Addr) (c1_1 : Nat) (l1_1 : List Int) (A2_0 : Option Addr) (c2_0 : Nat) (l2_0 : List Int) (A2_1 : Option Addr) (c2_1 : Nat) (l2_1 : List Bool) (r : Bool) (w : World) (hr0_1 : Kd.C k98 w A0_1 l0_1.length l0_1) (hc0_1 : l0_1.length ≤ c0_1) (hr1_0 : Kd.C (Kd.int .i64) w A1_0 l1_0.length l1_0) (hc1_0 : l1_0.length ≤ c1_0) (hr1_1 : Kd.C (Kd.int .i64) w A1_1 l1_1.length l1_1) (hc1_1 : l1_1.length ≤ c1_1) (hr2_0 : Kd.C (Kd.int .i64) w A2_0 l2_0.length l2_0) (hc2_0 : l2_0.length ≤ c2_0) (hr2_1 : Kd.C Kd.bool w A2_1 l2_1.length l2_1) (hc2_1 : l2_1.length ≤ c2_1) (hr_ : r = true) (h : compasslaw11_ProofRoundSound.f k a0_0 l0_1 l1_0 l1_1 l2_0 l2_1 = some r) :
    Calls Try.prog 9 #[.agg #[.int .i64 a0_0, .slice A0_1 l0_1.length c0_1], .agg #[.slice A1_0 l1_0.length c1_0, .slice A1_1 l1_1.length c1_1], .agg #[.slice A2_0 l2_0.length c2_0, .slice A2_1 l2_1.length c2_1]] w fun e w' => e = .returned (.bool r) ∧ Below w.heap.size w w' := by
 have hu24 := Try.underlying24
 have hu51 := Try.underlying51
 have hu58 := Try.underlying58
 have HR0_1 := ak hr0_1
 have HC0_1 := ak hc0_1
 clear hr0_1 hc0_1
 have HR1_0 := ak hr1_0
 have HC1_0 := ak hc1_0
 clear hr1_0 hc1_0
 have HR1_1 := ak hr1_1
 have HC1_1 := ak hc1_1
 clear hr1_1 hc1_1
 have HR2_0 := ak hr2_0
 have HC2_0 := ak hc2_0
 clear hr2_0 hc2_0
 have HR2_1 := ak hr2_1
 have HC2_1 := ak hc2_1
 clear hr2_1 hc2_1
 have HB := ak (Below.refl w.heap.size w)
 have HR_ := ak hr_
 clear hr_
 have H : ((compasslaw11_awake.f k).bind fun t599 => (if t599 = true then ((proof_Postman.f k a0_0 l0_1 l1_0 l1_1).bind fun bt600 => ((proof_Apart.f k a0_0 l0_1 l2_1).bind fun t602 => (if t602 = 0 then (compasslaw11_ProofRoundSound.j0 k bt600.1 bt600.2 (bt600.2 == 0) a0_0 l0_1 l2_0 l2_1) else (compasslaw11_ProofRoundSound.j0 k bt600.1 bt600.2 false a0_0 l0_1 l2_0 l2_1)))) else (some false))) = some r := h
 clear h
 replace H := Option.bind_eq_some_iff.mp H
 obtain ⟨t599, A40, H⟩ := H
 replace H : (if t599 = true then ((proof_Postman.f k a0_0 l0_1 l1_0 l1_1).bind fun bt600 => ((proof_Apart.f k a0_0 l0_1 l2_1).bind fun t602 => (if t602 = 0 then (compasslaw11_ProofRoundSound.j0 k bt600.1 bt600.2 (bt600.2 == 0) a0_0 l0_1 l2_0 l2_1) else (compasslaw11_ProofRoundSound.j0 k bt600.1 bt600.2 false a0_0 l0_1 l2_0 l2_1)))) else (some false)) = some r := H
 have A4 := ak A40
 clear A40
 by_cases c5 : t599 = true
 rotate_left
 ·
  replace c5 := Bool.eq_false_iff.mpr c5
  subst c5
  have H1 : (some false) = some r := by rw [if_neg (show ¬ (false = true) by decide)] at H; exact H
  clear H
  have H := H1
  clear H1
  exact absurd ((Option.some.inj H).trans HR_.out) (by decide)

 subst c5
 have H1 : ((proof_Postman.f k a0_0 l0_1 l1_0 l1_1).bind fun bt600 => ((proof_Apart.f k a0_0 l0_1 l2_1).bind fun t602 => (if t602 = 0 then (compasslaw11_ProofRoundSound.j0 k bt600.1 bt600.2 (bt600.2 == 0) a0_0 l0_1 l2_0 l2_1) else (compasslaw11_ProofRoundSound.j0 k bt600.1 bt600.2 false a0_0 l0_1 l2_0 l2_1)))) = some r := by rw [if_pos rfl] at H; exact H
 clear H
 have H := H1
 clear H1
 replace H := Option.bind_eq_some_iff.mp H
 obtain ⟨⟨t600, t601⟩, A60, H⟩ := H
 replace H : ((proof_Apart.f k a0_0 l0_1 l2_1).bind fun t602 => (if t602 = 0 then (compasslaw11_ProofRoundSound.j0 k t600 t601 (t601 == 0) a0_0 l0_1 l2_0 l2_1) else (compasslaw11_ProofRoundSound.j0 k t600 t601 false a0_0 l0_1 l2_0 l2_1))) = some r := H
 have A6 := ak A60
 clear A60
 replace H := Option.bind_eq_some_iff.mp H
 obtain ⟨t602, A70, H⟩ := H
 replace H : (if t602 = 0 then (compasslaw11_ProofRoundSound.j0 k t600 t601 (t601 == 0) a0_0 l0_1 l2_0 l2_1) else (compasslaw11_ProofRoundSound.j0 k t600 t601 false a0_0 l0_1 l2_0 l2_1)) = some r := H
 have A7 := ak A70
 clear A70
 have HC8 := ak H
 clear H
 go_enter Try.func9, Try.ntmps9
 go_upto_region 5 with (first | ((with_reducible refine gate_dst (N := 3) rfl ?_); refine bxe 3 #[.int .i64 a0_0, .slice A0_1 l0_1.length c0_1] 24 ?_; intro gb596 hg w9 hbox hb; have n0_ := ak (bl hb); have n1_ := ak (hbox); have n2_ := ak ((by rw [hg]; exact (below_size lb) : w.heap.size ≤ gb596)); have n3_ := ak ((by rw [hg]; exact (below_size lb) : w.heap.size ≤ gb596)); clear HB; have HB := n0_; have BK596 := n1_; have GW596 := n2_; have GE596 := n3_; clear n0_ n1_ n2_ n3_; clear hb hbox hg) | ((with_reducible refine gate_dst (N := 4) rfl ?_); refine bxe 4 #[.slice A1_0 l1_0.length c1_0, .slice A1_1 l1_1.length c1_1] 51 ?_; intro gb597 hg w10 hbox hb; have n0_ := ak (bo BK596 hb); have n1_ := ak (bl hb); have n2_ := ak (hbox); have n3_ := ak ((by rw [hg]; exact (below_size lb) : w.heap.size ≤ gb597)); have n4_ := ak ((by rw [hg]; exact (below_size lb) : w.heap.size ≤ gb597)); have n5_ := ak ((by rw [hg]; exact Nat.ne_of_lt (blk_lt (g := gb596) (o := .cells #[.int .i64 a0_0, .slice A0_1 l0_1.length c0_1] 24 (0, 0)) (bx BK596.out)) : gb596 ≠ gb597)); have n6_ := ak ((by rw [hg]; exact Nat.ne_of_gt (blk_lt (g := gb596) (o := .cells #[.int .i64 a0_0, .slice A0_1 l0_1.length c0_1] 24 (0, 0)) (bx BK596.out)) : gb597 ≠ gb596)); clear BK596; clear HB; have BK596 := n0_; have HB := n1_; have BK597 := n2_; have GW597 := n3_; have GE597 := n4_; have NB596_597 := n5_; have NB597_596 := n6_; clear n0_ n1_ n2_ n3_ n4_ n5_ n6_; clear hb hbox hg) | ((with_reducible refine gate_dst (N := 5) rfl ?_); refine bxe 5 #[.slice A2_0 l2_0.length c2_0, .slice A2_1 l2_1.length c2_1] 58 ?_; intro gb598 hg w11 hbox hb; have n0_ := ak (bo BK596 hb); have n1_ := ak (bo BK597 hb); have n2_ := ak (bl hb); have n3_ := ak (hbox); have n4_ := ak ((by rw [hg]; exact (below_size lb) : w.heap.size ≤ gb598)); have n5_ := ak ((by rw [hg]; exact (below_size lb) : w.heap.size ≤ gb598)); have n6_ := ak ((by rw [hg]; exact Nat.ne_of_lt (blk_lt (g := gb596) (o := .cells #[.int .i64 a0_0, .slice A0_1 l0_1.length c0_1] 24 (0, 0)) (bx BK596.out)) : gb596 ≠ gb598)); have n7_ := ak ((by rw [hg]; exact Nat.ne_of_gt (blk_lt (g := gb596) (o := .cells #[.int .i64 a0_0, .slice A0_1 l0_1.length c0_1] 24 (0, 0)) (bx BK596.out)) : gb598 ≠ gb596)); have n8_ := ak ((by rw [hg]; exact Nat.ne_of_lt (blk_lt (g := gb597) (o := .cells #[.slice A1_0 l1_0.length c1_0, .slice A1_1 l1_1.length c1_1] 51 (0, 0)) (bx BK597.out)) : gb597 ≠ gb598)); have n9_ := ak ((by rw [hg]; exact Nat.ne_of_gt (blk_lt (g := gb597) (o := .cells #[.slice A1_0 l1_0.length c1_0, .slice A1_1 l1_1.length c1_1] 51 (0, 0)) (bx BK597.out)) : gb598 ≠ gb597)); clear BK596; clear BK597; clear HB; have BK596 := n0_; have BK597 := n1_; have HB := n2_; have BK598 := n3_; have GW598 := n4_; have GE598 := n5_; have NB596_598 := n6_; have NB598_596 := n7_; have NB597_598 := n8_; have NB598_597 := n9_; clear n0_ n1_ n2_ n3_ n4_ n5_ n6_ n7_ n8_ n9_; clear hb hbox hg) | ((with_reducible refine gate_callee (f := 15) rfl ?_); refine gl 10 Try.func15 #[] ?_; (with_reducible refine (compasslaw11_awake.calls k true _ rfl A4.out).mono ?_); rintro e w12 ⟨rfl, hb⟩; refine ⟨_, rfl, ?_⟩; have n0_ := ak (bo BK596 hb); have n1_ := ak (bo BK597 hb); have n2_ := ak (bo BK598 hb); have n3_ := ak (bl hb); clear BK596; clear BK597; clear BK598; clear HB; have BK596 := n0_; have BK597 := n1_; have BK598 := n2_; have HB := n3_; clear n0_ n1_ n2_ n3_; clear hb; have ⟨_, _⟩ := nn NB596_597; have ⟨_, _⟩ := nn NB596_598; have hcz15_0 : w12.cell? ⟨gb596, 0, none⟩ = some (.int .i64 a0_0) := (blk_cell BK596.out 0).trans rfl; have hcz15_1 : w12.cell? ⟨gb596, 1, none⟩ = some (.slice A0_1 l0_1.length c0_1) := (blk_cell BK596.out 1).trans rfl; have hfz15_0 := blk_frozen BK596.out 0; have hfz15_1 := blk_frozen BK596.out 1; have ⟨_, _⟩ := nn NB597_598; have hcz17_0 : w12.cell? ⟨gb597, 0, none⟩ = some (.slice A1_0 l1_0.length c1_0) := (blk_cell BK597.out 0).trans rfl; have hcz17_1 : w12.cell? ⟨gb597, 1, none⟩ = some (.slice A1_1 l1_1.length c1_1) := (blk_cell BK597.out 1).trans rfl; have hfz17_0 := blk_frozen BK597.out 0; have hfz17_1 := blk_frozen BK597.out 1) | ((with_reducible refine gate_callee (f := 26) rfl ?_); refine gl 15 Try.func26 #[.agg #[.int .i64 a0_0, .slice A0_1 l0_1.length c0_1], .agg #[.slice A1_0 l1_0.length c1_0, .slice A1_1 l1_1.length c1_1]] ?_; (with_reducible refine (proof_Postman.calls k a0_0 _ _ l0_1 _ _ l1_0 _ _ l1_1 t600 t601 _ (Kd.C_below HR0_1.out lb) HC0_1.out (Kd.C_below HR1_0.out lb) HC1_0.out (Kd.C_below HR1_1.out lb) HC1_1.out A6.out).mono ?_); rintro e w18 ⟨rfl, hb⟩; refine ⟨_, rfl, ?_⟩; have n0_ := ak (bo BK596 hb); have n1_ := ak (bo BK597 hb); have n2_ := ak (bo BK598 hb); have n3_ := ak (bl hb); clear BK596; clear BK597; clear BK598; clear HB; have BK596 := n0_; have BK597 := n1_; have BK598 := n2_; have HB := n3_; clear n0_ n1_ n2_ n3_; clear hb; have hcz19_0 : w18.cell? ⟨gb596, 0, none⟩ = some (.int .i64 a0_0) := (blk_cell BK596.out 0).trans rfl; have hcz19_1 : w18.cell? ⟨gb596, 1, none⟩ = some (.slice A0_1 l0_1.length c0_1) := (blk_cell BK596.out 1).trans rfl; have hfz19_0 := blk_frozen BK596.out 0; have hfz19_1 := blk_frozen BK596.out 1; have hcz20_0 : w18.cell? ⟨gb598, 0, none⟩ = some (.slice A2_0 l2_0.length c2_0) := (blk_cell BK598.out 0).trans rfl; have hcz20_1 : w18.cell? ⟨gb598, 1, none⟩ = some (.slice A2_1 l2_1.length c2_1) := (blk_cell BK598.out 1).trans rfl; have hfz20_0 := blk_frozen BK598.out 0; have hfz20_1 := blk_frozen BK598.out 1) | ((with_reducible refine gate_callee (f := 28) rfl ?_); refine gl 21 Try.func28 #[.agg #[.int .i64 a0_0, .slice A0_1 l0_1.length c0_1], .slice A2_1 l2_1.length c2_1] ?_; (with_reducible refine (proof_Apart.calls k a0_0 _ _ l0_1 _ _ l2_1 t602 _ (Kd.C_below HR0_1.out lb) HC0_1.out (Kd.C_below HR2_1.out lb) HC2_1.out A7.out).mono ?_); rintro e w21 ⟨rfl, hb⟩; refine ⟨_, rfl, ?_⟩; have n0_ := ak (bo BK596 hb); have n1_ := ak (bo BK597 hb); have n2_ := ak (bo BK598 hb); have n3_ := ak (bl hb); clear BK596; clear BK597; clear BK598; clear HB; have BK596 := n0_; have BK597 := n1_; have BK598 := n2_; have HB := n3_; clear n0_ n1_ n2_ n3_; clear hb))
 (try simp only [Act.put, List.setIfInBounds_toArray, List.set_cons_zero, List.set_cons_succ])
 go_cut [27] (fun v27 wc => ∃ (kq : Nat) (x27_7 : Bool), v27 = .bool x27_7 ∧ Aside0 (compasslaw11_ProofRoundSound.j0 kq t600 t601 x27_7 a0_0 l0_1 l2_0 l2_1 = some r) ∧ Aside0 (kq ≤ k) ∧ Aside0 (wc.heap[gb596]? = some (.cells #[.int .i64 a0_0, (.slice A0_1 l0_1.length c0_1)] 24 (0, 0))) ∧ Aside0 (wc.heap[gb597]? = some (.cells #[(.slice A1_0 l1_0.length c1_0), (.slice A1_1 l1_1.length c1_1)] 51 (0, 0))) ∧ Aside0 (wc.heap[gb598]? = some (.cells #[(.slice A2_0 l2_0.length c2_0), (.slice A2_1 l2_1.length c2_1)] 58 (0, 0))) ∧ Aside0 (Below w.heap.size w wc))
 case first =>
  have H := HC8.out
  clear HC8
  by_cases c22 : t602 = 0
  rotate_left
  ·
   rw [if_neg c22] at H
   have c22b0 := bn c22
   have c22b1 : (t602 != 0) = true := bne_iff_ne.mpr c22
   (first | rw [c22b0] | (simp only [i64_w, i32_w]; rw [c22b0]) | skip)
   have H' := ak H
   clear H
   go_wp2
   go_meet
   case rel => exact ⟨_, (false), sr, H', ⟨by first | omega | exact Nat.le_refl _⟩, xb BK596, xb BK597, xb BK598, ⟨lb⟩⟩
  rw [if_pos c22] at H
  have c22b0 := be c22
  have c22b1 : (t602 != 0) = false := bne_eq_false_iff_eq.mpr c22
  clear c22
  (first | rw [c22b0] | (simp only [i64_w, i32_w]; rw [c22b0]) | skip)
  have H' := ak H
  clear H
  go_wp2
  go_meet
  case rel => exact ⟨_, ((t601 == 0)), sr, H', ⟨by first | omega | exact Nat.le_refl _⟩, xb BK596, xb BK597, xb BK598, ⟨lb⟩⟩
 case rest =>
  clear HC8
  try clear c1; try clear c2; try clear p2; try clear c5; try clear c9; try clear c13; try clear c14; try clear c15; try clear c16; try clear c22; try clear c22b0; try clear c22b1; try clear hcz15_0; try clear hcz15_1; try clear hcz17_0; try clear hcz17_1; try clear hcz19_0; try clear hcz19_1; try clear hcz20_0; try clear hcz20_1; try clear hfz15_0; try clear hfz15_1; try clear hfz17_0; try clear hfz17_1; try clear hfz19_0; try clear hfz19_1; try clear hfz20_0; try clear hfz20_1
  obtain ⟨kq, x27_7, rfl, HA, HJ7, BK596, BK597, BK598, HB⟩ := hcut
  cases kq with
  | zero => exact absurd HA.out (by simp [compasslaw11_ProofRoundSound.j0])
  | succ kj7 =>
   have H := HA.out
   clear HA
   simp only [compasslaw11_ProofRoundSound.j0] at H
   by_cases c23 : x27_7 = true
   ·
    subst c23
    have H1 : (some false) = some r := by rw [if_pos rfl] at H; exact H
    clear H
    have H := H1
    clear H1
    exact absurd ((Option.some.inj H).trans HR_.out) (by decide)
   replace c23 := Bool.eq_false_iff.mpr c23
   subst c23
   have H1 : (if t601 = 0 then ((compassref11_Rounds.f kj7 a0_0 l0_1 l2_0).bind fun t603 => (if t603 = true then ((compassref11_Total.f kj7 a0_0 l0_1 l2_0).bind fun t604 => (some (decide (t604 ≥ t600)))) else (some true))) else (some (t600 == 0))) = some r := by rw [if_neg (show ¬ (false = true) by decide)] at H; exact H
   clear H
   have H := H1
   clear H1
   by_cases c24 : t601 = 0
   rotate_left
   ·
    rw [if_neg c24] at H
    have c24b0 := bn c24
    have c24b1 : (t601 != 0) = true := bne_iff_ne.mpr c24
    obtain rfl := Option.some.inj H
    go_wp2
    go_ret
    exact ⟨er, lb⟩
   rw [if_pos c24] at H
   have c24b0 := be c24
   have c24b1 : (t601 != 0) = false := bne_eq_false_iff_eq.mpr c24
   clear c24
   replace H := Option.bind_eq_some_iff.mp H
   obtain ⟨t603, A250, H⟩ := H
   replace H : (if t603 = true then ((compassref11_Total.f kj7 a0_0 l0_1 l2_0).bind fun t604 => (some (decide (t604 ≥ t600)))) else (some true)) = some r := H
   have A25 := ak A250
   clear A250
   by_cases c26 : t603 = true
   rotate_left
   ·
    replace c26 := Bool.eq_false_iff.mpr c26
    subst c26
    have H1 : (some true) = some r := by rw [if_neg (show ¬ (false = true) by decide)] at H; exact H
    clear H
    have H := H1
    clear H1
    obtain rfl := Option.some.inj H
    have hnb37 := NB596_597.out
    have hnc37 := NB597_596.out
    have hnb38 := NB596_598.out
    have hnc38 := NB598_596.out
    have hcz39_0 : wc.cell? ⟨gb596, 0, none⟩ = some (.int .i64 a0_0) := (blk_cell BK596.out 0).trans rfl
    have hcz39_1 : wc.cell? ⟨gb596, 1, none⟩ = some (.slice A0_1 l0_1.length c0_1) := (blk_cell BK596.out 1).trans rfl
    have hfz39_0 := blk_frozen BK596.out 0
    have hfz39_1 := blk_frozen BK596.out 1
    have hnb40 := NB598_597.out
    have hnc40 := NB597_598.out
    have hcz41_0 : wc.cell? ⟨gb598, 0, none⟩ = some (.slice A2_0 l2_0.length c2_0) := (blk_cell BK598.out 0).trans rfl
    have hcz41_1 : wc.cell? ⟨gb598, 1, none⟩ = some (.slice A2_1 l2_1.length c2_1) := (blk_cell BK598.out 1).trans rfl
    have hfz41_0 := blk_frozen BK598.out 0
    have hfz41_1 := blk_frozen BK598.out 1
    go_wp2_with (first | ((with_reducible refine gate_callee (f := 32) rfl ?_); refine gl 35 Try.func32 #[.agg #[.int .i64 a0_0, .slice A0_1 l0_1.length c0_1], .slice A2_0 l2_0.length c2_0] ?_; (with_reducible refine (compassref11_Rounds.calls kj7 a0_0 _ _ l0_1 _ _ l2_0 false _ (Kd.C_below HR0_1.out lb) HC0_1.out (Kd.C_below HR2_0.out lb) HC2_0.out A25.out).mono ?_); rintro e w42 ⟨rfl, hb⟩; refine ⟨_, rfl, ?_⟩; have n0_ := ak (bo BK596 hb); have n1_ := ak (bo BK597 hb); have n2_ := ak (bo BK598 hb); have n3_ := ak (bl hb); clear BK596; clear BK597; clear BK598; clear HB; have BK596 := n0_; have BK597 := n1_; have BK598 := n2_; have HB := n3_; clear n0_ n1_ n2_ n3_; clear hb))
    go_ret
    exact ⟨er, lb⟩
   subst c26
   have H1 : ((compassref11_Total.f kj7 a0_0 l0_1 l2_0).bind fun t604 => (some (decide (t604 ≥ t600)))) = some r := by rw [if_pos rfl] at H; exact H
   clear H
   have H := H1
   clear H1
   replace H := Option.bind_eq_some_iff.mp H
   obtain ⟨t604, A270, H⟩ := H
   replace H : (some (decide (t604 ≥ t600))) = some r := H
   have A27 := ak A270
   clear A270
   obtain rfl := Option.some.inj H
   have hnb28 := NB596_597.out
   have hnc28 := NB597_596.out
   have hnb29 := NB596_598.out
   have hnc29 := NB598_596.out
   have hcz30_0 : wc.cell? ⟨gb596, 0, none⟩ = some (.int .i64 a0_0) := (blk_cell BK596.out 0).trans rfl
   have hcz30_1 : wc.cell? ⟨gb596, 1, none⟩ = some (.slice A0_1 l0_1.length c0_1) := (blk_cell BK596.out 1).trans rfl
   have hfz30_0 := blk_frozen BK596.out 0
   have hfz30_1 := blk_frozen BK596.out 1
   have hnb31 := NB598_597.out
   have hnc31 := NB597_598.out
   have hcz32_0 : wc.cell? ⟨gb598, 0, none⟩ = some (.slice A2_0 l2_0.length c2_0) := (blk_cell BK598.out 0).trans rfl
   have hcz32_1 : wc.cell? ⟨gb598, 1, none⟩ = some (.slice A2_1 l2_1.length c2_1) := (blk_cell BK598.out 1).trans rfl
   have hfz32_0 := blk_frozen BK598.out 0
   have hfz32_1 := blk_frozen BK598.out 1
   go_wp2_with (first | ((with_reducible refine gate_callee (f := 32) rfl ?_); refine gl 35 Try.func32 #[.agg #[.int .i64 a0_0, .slice A0_1 l0_1.length c0_1], .slice A2_0 l2_0.length c2_0] ?_; (with_reducible refine (compassref11_Rounds.calls kj7 a0_0 _ _ l0_1 _ _ l2_0 true _ (Kd.C_below HR0_1.out lb) HC0_1.out (Kd.C_below HR2_0.out lb) HC2_0.out A25.out).mono ?_); rintro e w33 ⟨rfl, hb⟩; refine ⟨_, rfl, ?_⟩; have n0_ := ak (bo BK596 hb); have n1_ := ak (bo BK597 hb); have n2_ := ak (bo BK598 hb); have n3_ := ak (bl hb); clear BK596; clear BK597; clear BK598; clear HB; have BK596 := n0_; have BK597 := n1_; have BK598 := n2_; have HB := n3_; clear n0_ n1_ n2_ n3_; clear hb; have hcz34_0 : w33.cell? ⟨gb596, 0, none⟩ = some (.int .i64 a0_0) := (blk_cell BK596.out 0).trans rfl; have hcz34_1 : w33.cell? ⟨gb596, 1, none⟩ = some (.slice A0_1 l0_1.length c0_1) := (blk_cell BK596.out 1).trans rfl; have hfz34_0 := blk_frozen BK596.out 0; have hfz34_1 := blk_frozen BK596.out 1; have hcz35_0 : w33.cell? ⟨gb598, 0, none⟩ = some (.slice A2_0 l2_0.length c2_0) := (blk_cell BK598.out 0).trans rfl; have hcz35_1 : w33.cell? ⟨gb598, 1, none⟩ = some (.slice A2_1 l2_1.length c2_1) := (blk_cell BK598.out 1).trans rfl; have hfz35_0 := blk_frozen BK598.out 0; have hfz35_1 := blk_frozen BK598.out 1) | (go_at_call 31; (with_reducible refine (compassref11_Total.calls kj7 a0_0 _ _ l0_1 _ _ l2_0 t604 _ (Kd.C_below HR0_1.out lb) HC0_1.out (Kd.C_below HR2_0.out lb) HC2_0.out A27.out).mono ?_); rintro e w36 ⟨rfl, hb⟩; have n0_ := ak (bo BK596 hb); have n1_ := ak (bo BK597 hb); have n2_ := ak (bo BK598 hb); have n3_ := ak (bl hb); clear BK596; clear BK597; clear BK598; clear HB; have BK596 := n0_; have BK597 := n1_; have BK598 := n2_; have HB := n3_; clear n0_ n1_ n2_ n3_; clear hb))
   go_ret
   exact ⟨er, lb⟩
end Go.Proofs.Ytkdoihcjhccliaa.Q
