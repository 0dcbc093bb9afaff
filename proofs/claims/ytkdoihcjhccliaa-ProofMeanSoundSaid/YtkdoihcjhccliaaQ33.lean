-- PRINTED by print.py (a twelfth state) out of the translation. Not trusted: Lean checks it.
import Derived.Test.YtkdoihcjhccliaaQ0
import Derived.Test.YtkdoihcjhccliaaQ32
namespace Go.Proofs.Ytkdoihcjhccliaa.Q
open Go.RowKit Go.Proofs.YtkdoihcjhccliaaW.PrintWords Go.Proofs.YtkdoihcjhccliaaW.PrintLast Go.Proofs.YtkdoihcjhccliaaW.PrintMore
attribute [local go_sem] max2_int min2_int max_two min_two max_three min_three max_four min_four   -- for this text's walks alone
set_option linter.unusedVariables false
set_option linter.unusedSimpArgs false

set_option maxHeartbeats 8000000 in
set_option maxRecDepth 100000 in
theorem compassref04_Circle.calls (k : Nat) (a0_0 : Int) (A0_1 : Option Addr) (c0_1 : Nat) (l0_1 : List (S98)) (A1 : Option Addr) (c1 : Nat) (l1 : List Int) (r : Bool) (w : World) (hr0_1 : Kd.C k98 w A0_1 l0_1.length l0_1) (hc0_1 : l0_1.length ≤ c0_1) (hr1 : Kd.C (Kd.int .i64) w A1 l1.length l1) (hc1 : l1.length ≤ c1) (h : compassref04_Circle.f k a0_0 l0_1 l1 = some r) :
    Calls Try.prog 45 #[.agg #[.int .i64 a0_0, .slice A0_1 l0_1.length c0_1], .slice A1 l1.length c1] w fun e w' => e = .returned (.bool r) ∧ Below w.heap.size w w' := by
 have hu24 := Try.underlying24
 have HR0_1 := ak hr0_1
 have HC0_1 := ak hc0_1
 clear hr0_1 hc0_1
 have HR1 := ak hr1
 have HC1 := ak hc1
 clear hr1 hc1
 have HB := ak (Below.refl w.heap.size w)
 have H : (if (l1.length : Int) = 0 then (compassref04_Circle.j0 k l1 true a0_0 l0_1) else (compassref04_Circle.j0 k l1 (decide ((l1.length : Int) > (l0_1.length : Int))) a0_0 l0_1)) = some r := h
 clear h
 have HC3 := ak H
 clear H
 go_enter Try.func45, Try.ntmps45
 go_upto_region 1 with (first | ((with_reducible refine gate_dst (N := 2) rfl ?_); (try (refine gate_guard (by rfl) ?_; dsimp only)); refine bxe 2 #[.int .i64 a0_0, .slice A0_1 l0_1.length c0_1] 24 ?_; intro gb410 hg w4 hbox hb; have n0_ := ak (bl hb); have n1_ := ak (hbox); have n2_ := ak ((by rw [hg]; exact (below_size lb) : w.heap.size ≤ gb410)); have n3_ := ak ((by rw [hg]; exact (below_size lb) : w.heap.size ≤ gb410)); clear HB; have HB := n0_; have BK410 := n1_; have GW410 := n2_; have GE410 := n3_; clear n0_ n1_ n2_ n3_; clear hb hbox hg))
 (try simp only [Act.put, List.setIfInBounds_toArray, List.set_cons_zero, List.set_cons_succ])
 go_cut [18] (fun v18 wc => ∃ (kq : Nat) (x18_2 : Bool), v18 = .bool x18_2 ∧ Aside0 (compassref04_Circle.j0 kq l1 x18_2 a0_0 l0_1 = some r) ∧ Aside0 (kq ≤ k) ∧ Aside0 (wc.heap[gb410]? = some (.cells #[.int .i64 a0_0, (.slice A0_1 l0_1.length c0_1)] 24 (0, 0))) ∧ Aside0 (Below w.heap.size w wc))
 case first =>
  have H := HC3.out
  clear HC3
  by_cases c5 : (l1.length : Int) = 0
  ·
   rw [if_pos c5] at H
   have c5b0 := be c5
   have c5b1 : ((l1.length : Int) != 0) = false := bne_eq_false_iff_eq.mpr c5
   clear c5
   (first | rw [c5b0] | (simp only [i64_w, i32_w]; rw [c5b0]) | skip)
   have H' := ak H
   clear H
   go_wp2
   go_meet
   case rel => exact ⟨_, (true), sr, H', ⟨by first | omega | exact Nat.le_refl _⟩, xb BK410, ⟨lb⟩⟩
  rw [if_neg c5] at H
  have c5b0 := bn c5
  have c5b1 : ((l1.length : Int) != 0) = true := bne_iff_ne.mpr c5
  have c5b2 : ¬ (l1 = []) := fun h_ => c5 (by rw [h_]; rfl)
  (first | rw [c5b0] | (simp only [i64_w, i32_w]; rw [c5b0]) | skip)
  have H' := ak H
  clear H
  have hcz6_0 : w4.cell? ⟨gb410, 0, none⟩ = some (.int .i64 a0_0) := (blk_cell BK410.out 0).trans rfl
  have hcz6_1 : w4.cell? ⟨gb410, 1, none⟩ = some (.slice A0_1 l0_1.length c0_1) := (blk_cell BK410.out 1).trans rfl
  have hfz6_0 := blk_frozen BK410.out 0
  have hfz6_1 := blk_frozen BK410.out 1
  go_wp2
  go_meet
  case rel => exact ⟨_, (decide ((l1.length : Int) > (l0_1.length : Int))), sr, H', ⟨by first | omega | exact Nat.le_refl _⟩, xb BK410, ⟨lb⟩⟩
 case rest =>
  clear HC3
  try clear c1; try clear p2; try clear c4; try clear c5; try clear c5b0; try clear c5b1; try clear c5b2; try clear hcz6_0; try clear hcz6_1; try clear hfz6_0; try clear hfz6_1
  obtain ⟨kq, x18_2, rfl, HA, HJ2, BK410, HB⟩ := hcut
  cases kq with
  | zero => exact absurd HA.out (by simp [compassref04_Circle.j0])
  | succ kj2 =>
   have H := HA.out
   clear HA
   simp only [compassref04_Circle.j0] at H
   by_cases c7 : x18_2 = true
   ·
    subst c7
    have H1 : (some false) = some r := by rw [if_pos rfl] at H; exact H
    clear H
    have H := H1
    clear H1
    obtain rfl := Option.some.inj H
    go_wp2
    go_ret
    exact ⟨er, lb⟩
   replace c7 := Bool.eq_false_iff.mpr c7
   subst c7
   have H1 : (if 0 ≤ a0_0 then (if (a0_0 : Int).toNat ≤ 281474976710656 then (compassref04_Circle.l0 kj2 l1 (List.replicate (a0_0 : Int).toNat false) 0 a0_0 l0_1) else (none)) else (none)) = some r := by rw [if_neg (show ¬ (false = true) by decide)] at H; exact H
   clear H
   have H := H1
   clear H1
   by_cases c8 : 0 ≤ a0_0
   rotate_left
   ·
    rw [if_neg c8] at H
    exact absurd H (by simp)

   rw [if_pos c8] at H
   have c8b0 := eq_true c8
   have c8b1 : decide (0 ≤ a0_0) = true := decide_eq_true c8
   clear c8
   by_cases c9 : (a0_0 : Int).toNat ≤ 281474976710656
   rotate_left
   ·
    rw [if_neg c9] at H
    exact absurd H (by simp)
   rw [if_pos c9] at H
   have c9b0 := eq_true c9
   have c9b1 : decide ((a0_0 : Int).toNat ≤ 281474976710656) = true := decide_eq_true c9
   clear c9
   obtain ⟨y411, hy411⟩ : ∃ y_ : List Bool, y_ = (List.replicate (a0_0 : Int).toNat false) := ⟨_, rfl⟩
   replace H : (compassref04_Circle.l0 kj2 l1 y411 0 a0_0 l0_1) = some r := by first | (rw [hy411]; exact H) | exact H
   have Ny411 := ak hy411
   clear hy411
   have H' := ak H
   clear H
   have hcz10_0 : wc.cell? ⟨gb410, 0, none⟩ = some (.int .i64 a0_0) := (blk_cell BK410.out 0).trans rfl
   have hcz10_1 : wc.cell? ⟨gb410, 1, none⟩ = some (.slice A0_1 l0_1.length c0_1) := (blk_cell BK410.out 1).trans rfl
   have hfz10_0 := blk_frozen BK410.out 0
   have hfz10_1 := blk_frozen BK410.out 1
   go_wp2_with (first | ((with_reducible refine gate_dst (N := 21) rfl ?_); (try (refine gate_guard (by rfl) ?_; dsimp only)); refine Kd.R_make Kd.bool _ 4 rfl (N := 21) rfl 26 _ _ rfl a0_0 rfl rfl Try.underlying26 (.bool false) 1 info4 rfl (by decide) (by omega) false (ok := fun _ => True) (okp := fun _ => True) rfl (fun _ hk => hk) trivial (oda) (Nat.le_trans (Nat.mul_le_mul_right _ (oda : a0_0.toNat ≤ 281474976710656)) (by omega)) (Below.refl _ _) (Nat.le_refl _) ?_; intro v412 w11 ho12 hb hg_ hnew_; clear hg_ hnew_; (first | rw [← Ny411.out] at ho12 | (simp only [Int.reduceToNat] at ho12; rw [← Ny411.out] at ho12)); have n0_ := ak (Kd.R_lower ho12 (below_size lb)); have n1_ := ak (bo BK410 hb); have n2_ := ak (bl hb); clear BK410; clear HB; have HO413 := n0_; have BK410 := n1_; have HB := n2_; clear n0_ n1_ n2_; clear hb ho12))
   go_loopg [6] kj2 (fun kq v6 w' => ∃ (x5_2 : List Bool) (x6_2 : Int), v6 = .int .i64 x6_2 ∧ Aside0 (compassref04_Circle.l0 kq l1 x5_2 x6_2 a0_0 l0_1 = some r) ∧ Aside0 (kq ≤ kj2) ∧ Aside0 (Kd.R Kd.bool 4 w' w.heap.size (fun _ => True) v412 x5_2) ∧ Aside0 (w'.heap[gb410]? = some (.cells #[.int .i64 a0_0, (.slice A0_1 l0_1.length c0_1)] 24 (0, 0))) ∧ Aside0 (Below w.heap.size w w'))
   case atStart => exact ⟨(y411), (0), sr, H', ⟨Nat.le_refl _⟩, ⟨rx HO413.out⟩, xb BK410, ⟨lb⟩⟩
   clear H'
   try clear c1; try clear p2; try clear c4; try clear c5; try clear c5b0; try clear c5b1; try clear c5b2; try clear c7; try clear c8; try clear c8b0; try clear c8b1; try clear c9; try clear c9b0; try clear c9b1; try clear hcz10_0; try clear hcz10_1; try clear hcz6_0; try clear hcz6_1; try clear hfz10_0; try clear hfz10_1; try clear hfz6_0; try clear hfz6_1; try clear p2
   obtain ⟨x5_2, x6_2, rfl, HA, HK2, HO_5, BK410, HB⟩ := hrel
   cases gk with
   | zero => exact absurd HA.out (by simp [compassref04_Circle.l0])
   | succ k2 => ?_
   have H := HA.out
   clear HA
   simp only [compassref04_Circle.l0] at H
   by_cases c13 : x6_2 < (l1.length : Int)
   rotate_left
   ·
    rw [if_neg c13] at H
    have c13b0 := decide_eq_false c13
    clear c13
    obtain rfl := Option.some.inj H
    go_wp2
    go_ret
    exact ⟨er, lb⟩
   rw [if_pos c13] at H
   have c13b0 := decide_eq_true c13
   clear c13
   have HC14 := ak H
   clear H
   go_upto_region 7 with (fail)
   go_cut [42] (fun v42 wc => ∃ (kq : Nat) (x42_13 : Bool), v42 = .bool x42_13 ∧ Aside0 (compassref04_Circle.j2 kq l1 x5_2 x6_2 x42_13 a0_0 l0_1 = some r) ∧ Aside0 (kq ≤ k2) ∧ Aside0 (Kd.R Kd.bool 4 wc w.heap.size (fun _ => True) v412 x5_2) ∧ Aside0 (wc.heap[gb410]? = some (.cells #[.int .i64 a0_0, (.slice A0_1 l0_1.length c0_1)] 24 (0, 0))) ∧ Aside0 (Below w.heap.size w wc))
   case first =>
    have H := HC14.out
    clear HC14
    by_cases c15 : 0 ≤ x6_2
    rotate_left
    ·
     rw [if_neg c15] at H
     exact absurd H (by simp)
    rw [if_pos c15] at H
    have c15b0 := decide_eq_true c15
    clear c15
    (first | rw [c15b0] | (simp only [i64_w, i32_w]; rw [c15b0]) | skip)
    by_cases c16 : (rd l1 x6_2) < 0
    ·
     rw [if_pos c16] at H
     have c16b0 := decide_eq_true c16
     clear c16
     have H' := ak H
     clear H
     try go_wp2
     have n0_ := ak (Kd.R_drew HO_5.out)
     have n1_ := ak (blk_drew BK410.out)
     have n2_ := ak (below_drew1 HB.out)
     clear HO_5
     clear BK410
     clear HB
     have HO_5 := n0_
     have BK410 := n1_
     have HB := n2_
     clear n0_ n1_ n2_
     have p414 : 0 ≤ (x6_2 : Int) := oda
     have q414 : x6_2 < (l1.length : Int) := oda
     obtain ⟨ad414, e414, hx414_0⟩ := Kd.at_int HR1.out x6_2 p414 q414
     have hw414_0 := hx414_0
     cases e414
     (try replace hx414_0 := hbc HB hx414_0)
     replace p414 := eq_true p414
     replace q414 := eq_true q414
     refine stC 15 [] (cY ((hbc HB hw414_0))) compassref04_Circle.tab7 compassref04_Circle.bits7 fun hHeld HT_ HW_ => ?_
     generalize wr.drew = w17 at HO_5 BK410 HB hx414_0 hHeld ⊢
     refine pv HT_ 0 28 ?_; refine pv HT_ 1 29 ?_; refine pv HT_ 2 30 ?_; refine tv HT_ HW_ hHeld 3 31 ?_; refine pv HT_ 4 32 ?_; refine pv HT_ 5 33 ?_; refine pu HT_ 6 34 ?_; refine pu HT_ 7 35 ?_; refine pu HT_ 8 36 ?_; refine pu HT_ 9 37 ?_; refine pu HT_ 10 38 ?_; refine pu HT_ 11 39 ?_; refine pu HT_ 12 40 ?_; refine pu HT_ 13 41 ?_; refine pv HT_ 14 42 ?_
     refine done_ (done_of HT_.out (by kernel_rfl)) ?_
     try go_wp2
     go_meet
     case rel => exact ⟨_, (true), sr, H', ⟨by have := HJ2.out; have := HK2.out; first | omega | exact Nat.le_refl _⟩, ⟨rx HO_5.out⟩, xb BK410, ⟨lb⟩⟩
    rw [if_neg c16] at H
    have c16b0 := decide_eq_false c16
    clear c16
    have H' := ak H
    clear H
    try go_wp2
    have n0_ := ak (Kd.R_drew HO_5.out)
    have n1_ := ak (blk_drew BK410.out)
    have n2_ := ak (below_drew1 HB.out)
    clear HO_5
    clear BK410
    clear HB
    have HO_5 := n0_
    have BK410 := n1_
    have HB := n2_
    clear n0_ n1_ n2_
    have p414 : 0 ≤ (x6_2 : Int) := oda
    have q414 : x6_2 < (l1.length : Int) := oda
    obtain ⟨ad414, e414, hx414_0⟩ := Kd.at_int HR1.out x6_2 p414 q414
    have hw414_0 := hx414_0
    cases e414
    (try replace hx414_0 := hbc HB hx414_0)
    replace p414 := eq_true p414
    replace q414 := eq_true q414
    have p415 : 0 ≤ (x6_2 : Int) := oda
    have q415 : x6_2 < (l1.length : Int) := oda
    obtain ⟨ad415, e415, hx415_0⟩ := Kd.at_int HR1.out x6_2 p415 q415
    have hw415_0 := hx415_0
    obtain rfl : ad414 = ad415 := (by injection e415)
    (try replace hx415_0 := hbc HB hx415_0)
    replace p415 := eq_true p415
    replace q415 := eq_true q415
    refine stC 15 [] (cX (bc0 BK410) (cX (bc1 BK410) (cX (hbc HB hw414_0) (cY (hbc HB hw415_0))))) compassref04_Circle.tab7 compassref04_Circle.bits7 fun hHeld HT_ HW_ => ?_
    generalize wr.drew = w18 at HO_5 BK410 HB hx414_0 hx415_0 hHeld ⊢
    refine pv HT_ 0 28 ?_; refine pv HT_ 1 29 ?_; refine pv HT_ 2 30 ?_; refine tv HT_ HW_ hHeld 3 31 ?_; refine pv HT_ 4 32 ?_; refine pv HT_ 5 33 ?_; refine pv HT_ 6 34 ?_; refine pv HT_ 7 35 ?_; refine pv HT_ 8 36 ?_; refine pv HT_ 10 38 ?_; refine tv HT_ HW_ hHeld 9 37 ?_; refine tv HT_ HW_ hHeld 11 39 ?_; refine pv HT_ 12 40 ?_; refine pv HT_ 13 41 ?_; refine pv HT_ 14 42 ?_
    refine done_ (done_of HT_.out (by kernel_rfl)) ?_
    try go_wp2
    go_meet
    case rel => exact ⟨_, (decide ((rd l1 x6_2) ≥ (l0_1.length : Int))), sr, H', ⟨by have := HJ2.out; have := HK2.out; first | omega | exact Nat.le_refl _⟩, ⟨rx HO_5.out⟩, xb BK410, ⟨lb⟩⟩
   case rest =>
    clear HC14
    try clear c1; try clear p2; try clear c4; try clear p4; try clear q4; try clear hx4; try clear c5; try clear c5b0; try clear c5b1; try clear c5b2; try clear c7; try clear c8; try clear c8b0; try clear c8b1; try clear c9; try clear c9b0; try clear c9b1; try clear c13; try clear c13b0; try clear c15; try clear c15b0; try clear c16; try clear c16b0; try clear hcz10_0; try clear hcz10_1; try clear hcz6_0; try clear hcz6_1; try clear hfz10_0; try clear hfz10_1; try clear hfz6_0; try clear hfz6_1; try clear hx414_0; try clear hx415_0; try clear p2; try clear p414; try clear p415; try clear q414; try clear q415
    obtain ⟨kq, x42_13, rfl, HA, HJ13, HO_5, BK410, HB⟩ := hcut
    cases kq with
    | zero => exact absurd HA.out (by simp [compassref04_Circle.j2])
    | succ kj13 =>
     have H := HA.out
     clear HA
     simp only [compassref04_Circle.j2] at H
     by_cases c19 : x42_13 = true
     ·
      subst c19
      have H1 : (some false) = some r := by rw [if_pos rfl] at H; exact H
      clear H
      have H := H1
      clear H1
      obtain rfl := Option.some.inj H
      go_wp2
      go_ret
      exact ⟨er, lb⟩
     replace c19 := Bool.eq_false_iff.mpr c19
     subst c19
     have H1 : (if (l1.length : Int) = 0 then (none) else (if 0 ≤ (Int.tmod (wrap64 (x6_2 + 1)) (l1.length : Int)) then (if (Int.tmod (wrap64 (x6_2 + 1)) (l1.length : Int)) < (l1.length : Int) then (if (rd l1 (Int.tmod (wrap64 (x6_2 + 1)) (l1.length : Int))) < 0 then (some false) else (if (rd l1 (Int.tmod (wrap64 (x6_2 + 1)) (l1.length : Int))) ≥ (l0_1.length : Int) then (some false) else (if 0 ≤ x6_2 then (if x6_2 < (l1.length : Int) then (if 0 ≤ (rd l1 x6_2) then (if (rd l1 x6_2) < (l0_1.length : Int) then (if 0 ≤ (rd l1 (Int.tmod (wrap64 (x6_2 + 1)) (l1.length : Int))) then (if (rd l1 (Int.tmod (wrap64 (x6_2 + 1)) (l1.length : Int))) < (l0_1.length : Int) then (if ((rd_T98 l0_1 (rd l1 x6_2)).f1) = ((rd_T98 l0_1 (rd l1 (Int.tmod (wrap64 (x6_2 + 1)) (l1.length : Int)))).f0) then (if 0 ≤ ((rd_T98 l0_1 (rd l1 x6_2)).f1) then (if ((rd_T98 l0_1 (rd l1 x6_2)).f1) < (x5_2.length : Int) then (if rdOf false x5_2 ((rd_T98 l0_1 (rd l1 x6_2)).f1) = true then (some false) else (compassref04_Circle.l0 kj13 l1 (x5_2.set (((rd_T98 l0_1 (rd l1 x6_2)).f1) : Int).toNat true) (wrap64 (x6_2 + 1)) a0_0 l0_1)) else (none)) else (none)) else (some false)) else (none)) else (none)) else (none)) else (none)) else (none)) else (none)))) else (none)) else (none))) = some r := by rw [if_neg (show ¬ (false = true) by decide)] at H; exact H
     clear H
     have H := H1
     clear H1
     by_cases c20 : (l1.length : Int) = 0
     ·
      rw [if_pos c20] at H
      exact absurd H (by simp)
     rw [if_neg c20] at H
     have c20b0 := bn c20
     have c20b1 : ((l1.length : Int) != 0) = true := bne_iff_ne.mpr c20
     have c20b2 : ¬ (l1 = []) := fun h_ => c20 (by rw [h_]; rfl)
     obtain ⟨ji21, hji21⟩ : ∃ j_ : Int, (Int.tmod (wrap64 (x6_2 + 1)) (l1.length : Int)) = j_ := ⟨_, rfl⟩
     replace H : (if 0 ≤ (ji21) then (if (ji21) < (l1.length : Int) then (if (rd l1 (ji21)) < 0 then (some false) else (if (rd l1 (ji21)) ≥ (l0_1.length : Int) then (some false) else (if 0 ≤ x6_2 then (if x6_2 < (l1.length : Int) then (if 0 ≤ (rd l1 x6_2) then (if (rd l1 x6_2) < (l0_1.length : Int) then (if 0 ≤ (rd l1 (ji21)) then (if (rd l1 (ji21)) < (l0_1.length : Int) then (if ((rd_T98 l0_1 (rd l1 x6_2)).f1) = ((rd_T98 l0_1 (rd l1 (ji21))).f0) then (if 0 ≤ ((rd_T98 l0_1 (rd l1 x6_2)).f1) then (if ((rd_T98 l0_1 (rd l1 x6_2)).f1) < (x5_2.length : Int) then (if rdOf false x5_2 ((rd_T98 l0_1 (rd l1 x6_2)).f1) = true then (some false) else (compassref04_Circle.l0 kj13 l1 (x5_2.set (((rd_T98 l0_1 (rd l1 x6_2)).f1) : Int).toNat true) (wrap64 (x6_2 + 1)) a0_0 l0_1)) else (none)) else (none)) else (some false)) else (none)) else (none)) else (none)) else (none)) else (none)) else (none)))) else (none)) else (none)) = some r := by first | (rw [hji21] at H; exact H) | (simp only [hji21] at H ⊢; exact H)
     by_cases c22 : 0 ≤ (ji21)
     rotate_left
     ·
      rw [if_neg c22] at H
      exact absurd H (by simp)
     rw [if_pos c22] at H
     have c22b0 := decide_eq_true c22
     clear c22
     by_cases c23 : (ji21) < (l1.length : Int)
     rotate_left
     ·
      rw [if_neg c23] at H
      exact absurd H (by simp)
     rw [if_pos c23] at H
     have c23b0 := decide_eq_true c23
     clear c23
     by_cases c24 : (rd l1 (ji21)) < 0
     ·
      rw [if_pos c24] at H
      have c24b0 := decide_eq_true c24
      clear c24
      obtain rfl := Option.some.inj H
      have p416 : 0 ≤ ((ji21) : Int) := oda
      have q416 : (ji21) < (l1.length : Int) := oda
      obtain ⟨ad416, e416, hx416_0⟩ := Kd.at_int HR1.out (ji21) p416 q416
      cases e416
      (try replace hx416_0 := hbc HB hx416_0)
      replace p416 := eq_true p416
      replace q416 := eq_true q416
      try go_wp2
      have n0_ := ak (Kd.R_drew HO_5.out)
      have n1_ := ak (blk_drew BK410.out)
      have n2_ := ak (below_drew1 HB.out)
      clear HO_5
      clear BK410
      clear HB
      have HO_5 := n0_
      have BK410 := n1_
      have HB := n2_
      clear n0_ n1_ n2_
      refine stC 41 [] cN compassref04_Circle.tab10 compassref04_Circle.bits10 fun hHeld HT_ HW_ => ?_
      generalize wc.drew = w25 at HO_5 BK410 HB hHeld ⊢
      refine pv HT_ 0 51 ?_; refine pv HT_ 1 52 ?_; refine pv HT_ 2 53 ?_; refine pu HT_ 3 54 ?_; refine pu HT_ 4 55 ?_; refine pu HT_ 5 56 ?_; refine pu HT_ 6 57 ?_; refine pu HT_ 7 58 ?_; refine pv HT_ 8 59 ?_; refine pv HT_ 9 60 ?_; refine pu HT_ 10 61 ?_; refine pu HT_ 11 62 ?_; refine pu HT_ 12 63 ?_; refine pu HT_ 13 64 ?_; refine pu HT_ 14 65 ?_; refine pu HT_ 15 66 ?_; refine pu HT_ 16 67 ?_; refine pu HT_ 17 68 ?_; refine pu HT_ 18 69 ?_; refine pu HT_ 19 70 ?_; refine pu HT_ 20 71 ?_; refine pu HT_ 21 72 ?_; refine pu HT_ 22 73 ?_; refine pu HT_ 23 74 ?_; refine pu HT_ 24 75 ?_; refine pu HT_ 25 76 ?_; refine pv HT_ 26 77 ?_; refine pv HT_ 27 78 ?_; refine pu HT_ 28 79 ?_; refine pu HT_ 29 80 ?_; refine pu HT_ 30 81 ?_; refine pu HT_ 31 82 ?_; refine pu HT_ 32 83 ?_; refine pu HT_ 33 84 ?_; refine pu HT_ 34 85 ?_; refine pu HT_ 35 86 ?_; refine pu HT_ 36 87 ?_; refine pu HT_ 37 88 ?_; refine pu HT_ 38 89 ?_; refine pu HT_ 39 90 ?_; refine pv HT_ 40 91 ?_
      refine done_ (done_of HT_.out (by kernel_rfl)) ?_
      try go_wp2
      go_ret
      exact ⟨by first | rfl | (simp [errW_none, errW_some] <;> rfl) | (simp only [← hji21]; first | rfl | (simp [errW_none, errW_some] <;> rfl)) | (simp [*, errW_none, errW_some] <;> rfl), lb⟩
     rw [if_neg c24] at H
     have c24b0 := decide_eq_false c24
     clear c24
     by_cases c26 : (rd l1 (ji21)) ≥ (l0_1.length : Int)
     ·
      rw [if_pos c26] at H
      have c26b0 := decide_eq_true c26
      clear c26
      obtain rfl := Option.some.inj H
      have p416 : 0 ≤ ((ji21) : Int) := oda
      have q416 : (ji21) < (l1.length : Int) := oda
      obtain ⟨ad416, e416, hx416_0⟩ := Kd.at_int HR1.out (ji21) p416 q416
      cases e416
      (try replace hx416_0 := hbc HB hx416_0)
      replace p416 := eq_true p416
      replace q416 := eq_true q416
      try go_wp2
      have n0_ := ak (Kd.R_drew HO_5.out)
      have n1_ := ak (blk_drew BK410.out)
      have n2_ := ak (below_drew1 HB.out)
      clear HO_5
      clear BK410
      clear HB
      have HO_5 := n0_
      have BK410 := n1_
      have HB := n2_
      clear n0_ n1_ n2_
      refine stC 41 [] (cX (bc0 BK410) (cY (bc1 BK410))) compassref04_Circle.tab10 compassref04_Circle.bits10 fun hHeld HT_ HW_ => ?_
      generalize wc.drew = w27 at HO_5 BK410 HB hHeld ⊢
      refine pv HT_ 0 51 ?_; refine pv HT_ 1 52 ?_; refine pv HT_ 2 53 ?_; refine pv HT_ 3 54 ?_; refine pv HT_ 4 55 ?_; refine tv HT_ HW_ hHeld 5 56 ?_; refine pv HT_ 6 57 ?_; refine pv HT_ 7 58 ?_; refine pv HT_ 8 59 ?_; refine pv HT_ 9 60 ?_; refine pu HT_ 10 61 ?_; refine pu HT_ 11 62 ?_; refine pu HT_ 12 63 ?_; refine pu HT_ 13 64 ?_; refine pu HT_ 14 65 ?_; refine pu HT_ 15 66 ?_; refine pu HT_ 16 67 ?_; refine pu HT_ 17 68 ?_; refine pu HT_ 18 69 ?_; refine pu HT_ 19 70 ?_; refine pu HT_ 20 71 ?_; refine pu HT_ 21 72 ?_; refine pu HT_ 22 73 ?_; refine pu HT_ 23 74 ?_; refine pu HT_ 24 75 ?_; refine pu HT_ 25 76 ?_; refine pv HT_ 26 77 ?_; refine pv HT_ 27 78 ?_; refine pu HT_ 28 79 ?_; refine pu HT_ 29 80 ?_; refine pu HT_ 30 81 ?_; refine pu HT_ 31 82 ?_; refine pu HT_ 32 83 ?_; refine pu HT_ 33 84 ?_; refine pu HT_ 34 85 ?_; refine pu HT_ 35 86 ?_; refine pu HT_ 36 87 ?_; refine pu HT_ 37 88 ?_; refine pu HT_ 38 89 ?_; refine pu HT_ 39 90 ?_; refine pv HT_ 40 91 ?_
      refine done_ (done_of HT_.out (by kernel_rfl)) ?_
      try go_wp2
      go_ret
      exact ⟨by first | rfl | (simp [errW_none, errW_some] <;> rfl) | (simp only [← hji21]; first | rfl | (simp [errW_none, errW_some] <;> rfl)) | (simp [*, errW_none, errW_some] <;> rfl), lb⟩
     rw [if_neg c26] at H
     have c26b0 := decide_eq_false c26
     clear c26
     by_cases c28 : 0 ≤ x6_2
     rotate_left
     ·
      rw [if_neg c28] at H
      exact absurd H (by simp)
     rw [if_pos c28] at H
     have c28b0 := decide_eq_true c28
     clear c28
     by_cases c29 : x6_2 < (l1.length : Int)
     rotate_left
     ·
      rw [if_neg c29] at H
      exact absurd H (by simp)
     rw [if_pos c29] at H
     have c29b0 := decide_eq_true c29
     clear c29
     by_cases c30 : 0 ≤ (rd l1 x6_2)
     rotate_left
     ·
      rw [if_neg c30] at H
      exact absurd H (by simp)
     rw [if_pos c30] at H
     have c30b0 := decide_eq_true c30
     clear c30
     by_cases c31 : (rd l1 x6_2) < (l0_1.length : Int)
     rotate_left
     ·
      rw [if_neg c31] at H
      exact absurd H (by simp)
     rw [if_pos c31] at H
     have c31b0 := decide_eq_true c31
     clear c31
     by_cases c32 : 0 ≤ (rd l1 (ji21))
     rotate_left
     ·
      rw [if_neg c32] at H
      exact absurd H (by simp)
     rw [if_pos c32] at H
     have c32b0 := decide_eq_true c32
     clear c32
     by_cases c33 : (rd l1 (ji21)) < (l0_1.length : Int)
     rotate_left
     ·
      rw [if_neg c33] at H
      exact absurd H (by simp)
     rw [if_pos c33] at H
     have c33b0 := decide_eq_true c33
     clear c33
     by_cases c34 : ((rd_T98 l0_1 (rd l1 x6_2)).f1) = ((rd_T98 l0_1 (rd l1 (ji21))).f0)
     rotate_left
     ·
      rw [if_neg c34] at H
      have c34b0 := bn c34
      have c34b1 : (((rd_T98 l0_1 (rd l1 x6_2)).f1) != ((rd_T98 l0_1 (rd l1 (ji21))).f0)) = true := bne_iff_ne.mpr c34
      obtain rfl := Option.some.inj H
      have p416 : 0 ≤ ((ji21) : Int) := oda
      have q416 : (ji21) < (l1.length : Int) := oda
      obtain ⟨ad416, e416, hx416_0⟩ := Kd.at_int HR1.out (ji21) p416 q416
      cases e416
      (try replace hx416_0 := hbc HB hx416_0)
      replace p416 := eq_true p416
      replace q416 := eq_true q416
      try go_wp2
      have n0_ := ak (Kd.R_drew HO_5.out)
      have n1_ := ak (blk_drew BK410.out)
      have n2_ := ak (below_drew1 HB.out)
      clear HO_5
      clear BK410
      clear HB
      have HO_5 := n0_
      have BK410 := n1_
      have HB := n2_
      clear n0_ n1_ n2_
      have p417 : 0 ≤ (x6_2 : Int) := oda
      have q417 : x6_2 < (l1.length : Int) := oda
      obtain ⟨ad417, e417, hx417_0⟩ := Kd.at_int HR1.out x6_2 p417 q417
      have hw417_0 := hx417_0
      obtain rfl : ad416 = ad417 := (by injection e417)
      (try replace hx417_0 := hbc HB hx417_0)
      replace p417 := eq_true p417
      replace q417 := eq_true q417
      have p418 : 0 ≤ ((rd l1 x6_2) : Int) := oda
      have q418 : (rd l1 x6_2) < (l0_1.length : Int) := oda
      obtain ⟨ad418, e418, hx418_0, hx418_1, hx418_2, hx418_3⟩ := at_T98 HR0_1.out (rd l1 x6_2) p418 q418
      have hw418_3 := hx418_3
      have hw418_2 := hx418_2
      have hw418_1 := hx418_1
      have hw418_0 := hx418_0
      cases e418
      (try replace hx418_0 := hbc HB hx418_0)
      (try replace hx418_1 := hbc HB hx418_1)
      (try replace hx418_2 := hbc HB hx418_2)
      (try replace hx418_3 := hbc HB hx418_3)
      replace p418 := eq_true p418
      replace q418 := eq_true q418
      have p419 : 0 ≤ ((rd l1 (ji21)) : Int) := oda
      have q419 : (rd l1 (ji21)) < (l0_1.length : Int) := oda
      obtain ⟨ad419, e419, hx419_0, hx419_1, hx419_2, hx419_3⟩ := at_T98 HR0_1.out (rd l1 (ji21)) p419 q419
      have hw419_3 := hx419_3
      have hw419_2 := hx419_2
      have hw419_1 := hx419_1
      have hw419_0 := hx419_0
      obtain rfl : ad418 = ad419 := (by injection e419)
      (try replace hx419_0 := hbc HB hx419_0)
      (try replace hx419_1 := hbc HB hx419_1)
      (try replace hx419_2 := hbc HB hx419_2)
      (try replace hx419_3 := hbc HB hx419_3)
      replace p419 := eq_true p419
      replace q419 := eq_true q419
      refine stC 41 [] (cX (bc0 BK410) (cX (bc1 BK410) (cX (hbc HB hw417_0) (cX (hbc HB hw418_0) (cX (hbc HB hw418_1) (cX (hbc HB hw418_2) (cX (hbc HB hw418_3) (cX (hbc HB hw419_0) (cX (hbc HB hw419_1) (cX (hbc HB hw419_2) (cY (hbc HB hw419_3)))))))))))) compassref04_Circle.tab10 compassref04_Circle.bits10 fun hHeld HT_ HW_ => ?_
      generalize wc.drew = w46 at HO_5 BK410 HB hx417_0 hx418_0 hx418_1 hx418_2 hx418_3 hx419_0 hx419_1 hx419_2 hx419_3 hHeld ⊢
      refine pv HT_ 0 51 ?_; refine pv HT_ 1 52 ?_; refine pv HT_ 2 53 ?_; refine pv HT_ 3 54 ?_; refine pv HT_ 4 55 ?_; refine tv HT_ HW_ hHeld 5 56 ?_; refine pv HT_ 6 57 ?_; refine pv HT_ 7 58 ?_; refine pv HT_ 8 59 ?_; refine pv HT_ 9 60 ?_; refine pv HT_ 10 61 ?_; refine pv HT_ 12 63 ?_; refine pv HT_ 13 64 ?_; refine pv HT_ 14 65 ?_; refine pv HT_ 19 70 ?_; refine pv HT_ 21 72 ?_; refine tv HT_ HW_ hHeld 11 62 ?_; refine tv HT_ HW_ hHeld 15 66 ?_; refine pv HT_ 16 67 ?_; refine pv HT_ 17 68 ?_; refine tv HT_ HW_ hHeld 18 69 ?_; refine tv HT_ HW_ hHeld 20 71 ?_; refine pv HT_ 22 73 ?_; refine pv HT_ 23 74 ?_; refine tv HT_ HW_ hHeld 24 75 ?_; refine pv HT_ 25 76 ?_; refine pv HT_ 26 77 ?_; refine pv HT_ 27 78 ?_; refine pu HT_ 28 79 ?_; refine pu HT_ 29 80 ?_; refine pu HT_ 30 81 ?_; refine pu HT_ 31 82 ?_; refine pu HT_ 32 83 ?_; refine pu HT_ 33 84 ?_; refine pu HT_ 34 85 ?_; refine pu HT_ 35 86 ?_; refine pu HT_ 36 87 ?_; refine pu HT_ 37 88 ?_; refine pu HT_ 38 89 ?_; refine pu HT_ 39 90 ?_; refine pv HT_ 40 91 ?_
      refine done_ (done_of HT_.out (by kernel_rfl)) ?_
      try go_wp2
      go_ret
      exact ⟨by first | rfl | (simp [errW_none, errW_some] <;> rfl) | (simp only [← hji21]; first | rfl | (simp [errW_none, errW_some] <;> rfl)) | (simp [*, errW_none, errW_some] <;> rfl), lb⟩
     rw [if_pos c34] at H
     have c34b0 := be c34
     have c34b1 : (((rd_T98 l0_1 (rd l1 x6_2)).f1) != ((rd_T98 l0_1 (rd l1 (ji21))).f0)) = false := bne_eq_false_iff_eq.mpr c34
     clear c34
     by_cases c35 : 0 ≤ ((rd_T98 l0_1 (rd l1 x6_2)).f1)
     rotate_left
     ·
      rw [if_neg c35] at H
      exact absurd H (by simp)
     rw [if_pos c35] at H
     have c35b0 := decide_eq_true c35
     clear c35
     by_cases c36 : ((rd_T98 l0_1 (rd l1 x6_2)).f1) < (x5_2.length : Int)
     rotate_left
     ·
      rw [if_neg c36] at H
      exact absurd H (by simp)
     rw [if_pos c36] at H
     have c36b0 := decide_eq_true c36
     clear c36
     obtain ⟨bq37, hbq37⟩ : ∃ b_ : Bool, b_ = (rdOf false x5_2 ((rd_T98 l0_1 (rd l1 x6_2)).f1)) := ⟨_, rfl⟩
     replace H : (if bq37 = true then (some false) else (compassref04_Circle.l0 kj13 l1 (x5_2.set (((rd_T98 l0_1 (rd l1 x6_2)).f1) : Int).toNat true) (wrap64 (x6_2 + 1)) a0_0 l0_1)) = some r := by rw [← hbq37] at H; exact H
     have Nbq37 := ak hbq37
     clear hbq37
     by_cases c38 : bq37 = true
     ·
      subst c38
      have H1 : (some false) = some r := by rw [if_pos rfl] at H; exact H
      clear H
      have H := H1
      clear H1
      obtain rfl := Option.some.inj H
      have p416 : 0 ≤ ((ji21) : Int) := oda
      have q416 : (ji21) < (l1.length : Int) := oda
      obtain ⟨ad416, e416, hx416_0⟩ := Kd.at_int HR1.out (ji21) p416 q416
      cases e416
      (try replace hx416_0 := hbc HB hx416_0)
      replace p416 := eq_true p416
      replace q416 := eq_true q416
      try go_wp2
      have n0_ := ak (Kd.R_drew HO_5.out)
      have n1_ := ak (blk_drew BK410.out)
      have n2_ := ak (below_drew1 HB.out)
      clear HO_5
      clear BK410
      clear HB
      have HO_5 := n0_
      have BK410 := n1_
      have HB := n2_
      clear n0_ n1_ n2_
      have p417 : 0 ≤ (x6_2 : Int) := oda
      have q417 : x6_2 < (l1.length : Int) := oda
      obtain ⟨ad417, e417, hx417_0⟩ := Kd.at_int HR1.out x6_2 p417 q417
      have hw417_0 := hx417_0
      obtain rfl : ad416 = ad417 := (by injection e417)
      (try replace hx417_0 := hbc HB hx417_0)
      replace p417 := eq_true p417
      replace q417 := eq_true q417
      have p418 : 0 ≤ ((rd l1 x6_2) : Int) := oda
      have q418 : (rd l1 x6_2) < (l0_1.length : Int) := oda
      obtain ⟨ad418, e418, hx418_0, hx418_1, hx418_2, hx418_3⟩ := at_T98 HR0_1.out (rd l1 x6_2) p418 q418
      have hw418_3 := hx418_3
      have hw418_2 := hx418_2
      have hw418_1 := hx418_1
      have hw418_0 := hx418_0
      cases e418
      (try replace hx418_0 := hbc HB hx418_0)
      (try replace hx418_1 := hbc HB hx418_1)
      (try replace hx418_2 := hbc HB hx418_2)
      (try replace hx418_3 := hbc HB hx418_3)
      replace p418 := eq_true p418
      replace q418 := eq_true q418
      have p419 : 0 ≤ ((rd l1 (ji21)) : Int) := oda
      have q419 : (rd l1 (ji21)) < (l0_1.length : Int) := oda
      obtain ⟨ad419, e419, hx419_0, hx419_1, hx419_2, hx419_3⟩ := at_T98 HR0_1.out (rd l1 (ji21)) p419 q419
      have hw419_3 := hx419_3
      have hw419_2 := hx419_2
      have hw419_1 := hx419_1
      have hw419_0 := hx419_0
      obtain rfl : ad418 = ad419 := (by injection e419)
      (try replace hx419_0 := hbc HB hx419_0)
      (try replace hx419_1 := hbc HB hx419_1)
      (try replace hx419_2 := hbc HB hx419_2)
      (try replace hx419_3 := hbc HB hx419_3)
      replace p419 := eq_true p419
      replace q419 := eq_true q419
      have p420 : 0 ≤ (x6_2 : Int) := oda
      have q420 : x6_2 < (l1.length : Int) := oda
      obtain ⟨ad420, e420, hx420_0⟩ := Kd.at_int HR1.out x6_2 p420 q420
      have hw420_0 := hx420_0
      obtain rfl : ad416 = ad420 := (by injection e420)
      (try replace hx420_0 := hbc HB hx420_0)
      replace p420 := eq_true p420
      replace q420 := eq_true q420
      have p421 : 0 ≤ ((rd l1 x6_2) : Int) := oda
      have q421 : (rd l1 x6_2) < (l0_1.length : Int) := oda
      obtain ⟨ad421, e421, hx421_0, hx421_1, hx421_2, hx421_3⟩ := at_T98 HR0_1.out (rd l1 x6_2) p421 q421
      have hw421_3 := hx421_3
      have hw421_2 := hx421_2
      have hw421_1 := hx421_1
      have hw421_0 := hx421_0
      obtain rfl : ad418 = ad421 := (by injection e421)
      (try replace hx421_0 := hbc HB hx421_0)
      (try replace hx421_1 := hbc HB hx421_1)
      (try replace hx421_2 := hbc HB hx421_2)
      (try replace hx421_3 := hbc HB hx421_3)
      replace p421 := eq_true p421
      replace q421 := eq_true q421
      obtain ⟨Ao40, co40, eo40⟩ := Kd.R_slice HO_5.out
      (first | subst eo40 | (injection eo40 with f1_ f2_ f3_; have f4_ := f1_.symm; have f5_ := f3_.symm; clear f1_ f2_ f3_; subst f4_; subst f5_))
      have p422 : 0 ≤ (((rd_T98 l0_1 (rd l1 x6_2)).f1) : Int) := oda
      have q422 : ((rd_T98 l0_1 (rd l1 x6_2)).f1) < (x5_2.length : Int) := oda
      obtain ⟨ad422, e422, hx422_0⟩ := Kd.at_bool (Kd.R_reads' HO_5.out).2.2 ((rd_T98 l0_1 (rd l1 x6_2)).f1) p422 q422
      (try rw [← Nbq37.out] at hx422_0)
      cases e422
      replace p422 := eq_true p422
      replace q422 := eq_true q422
      refine stC 41 [] (cX (bc0 BK410) (cX (bc1 BK410) (cX (hbc HB hw417_0) (cX (hbc HB hw418_0) (cX (hbc HB hw418_1) (cX (hbc HB hw418_2) (cX (hbc HB hw418_3) (cX (hbc HB hw419_0) (cX (hbc HB hw419_1) (cX (hbc HB hw419_2) (cX (hbc HB hw419_3) (cX (hbc HB hw420_0) (cX (hbc HB hw421_0) (cX (hbc HB hw421_1) (cX (hbc HB hw421_2) (cX (hbc HB hw421_3) (cY hx422_0))))))))))))))))) compassref04_Circle.tab10 compassref04_Circle.bits10 fun hHeld HT_ HW_ => ?_
      generalize wc.drew = w39 at HO_5 BK410 HB hx417_0 hx418_0 hx418_1 hx418_2 hx418_3 hx419_0 hx419_1 hx419_2 hx419_3 hx420_0 hx421_0 hx421_1 hx421_2 hx421_3 hx422_0 hHeld ⊢
      refine pv HT_ 0 51 ?_; refine pv HT_ 1 52 ?_; refine pv HT_ 2 53 ?_; refine pv HT_ 3 54 ?_; refine pv HT_ 4 55 ?_; refine tv HT_ HW_ hHeld 5 56 ?_; refine pv HT_ 6 57 ?_; refine pv HT_ 7 58 ?_; refine pv HT_ 8 59 ?_; refine pv HT_ 9 60 ?_; refine pv HT_ 10 61 ?_; refine pv HT_ 12 63 ?_; refine pv HT_ 13 64 ?_; refine pv HT_ 14 65 ?_; refine pv HT_ 19 70 ?_; refine pv HT_ 21 72 ?_; refine tv HT_ HW_ hHeld 11 62 ?_; refine tv HT_ HW_ hHeld 15 66 ?_; refine pv HT_ 16 67 ?_; refine pv HT_ 17 68 ?_; refine tv HT_ HW_ hHeld 18 69 ?_; refine tv HT_ HW_ hHeld 20 71 ?_; refine pv HT_ 22 73 ?_; refine pv HT_ 23 74 ?_; refine tv HT_ HW_ hHeld 24 75 ?_; refine pv HT_ 25 76 ?_; refine pv HT_ 26 77 ?_; refine pv HT_ 27 78 ?_; refine pv HT_ 28 79 ?_; refine pv HT_ 29 80 ?_; refine pv HT_ 31 82 ?_; refine pv HT_ 32 83 ?_; refine pv HT_ 33 84 ?_; refine tv HT_ HW_ hHeld 30 81 ?_; refine tv HT_ HW_ hHeld 34 85 ?_; refine pv HT_ 35 86 ?_; refine pv HT_ 36 87 ?_; refine tv HT_ HW_ hHeld 37 88 ?_; refine pv HT_ 38 89 ?_; refine tv HT_ HW_ hHeld 39 90 ?_; refine pv HT_ 40 91 ?_
      refine done_ (done_of HT_.out (by kernel_rfl)) ?_
      try go_wp2
      go_ret
      exact ⟨by first | rfl | (simp [errW_none, errW_some] <;> rfl) | (simp only [← hji21]; first | rfl | (simp [errW_none, errW_some] <;> rfl)) | (simp [*, errW_none, errW_some] <;> rfl), lb⟩
     replace c38 := Bool.eq_false_iff.mpr c38
     subst c38
     have H1 : (compassref04_Circle.l0 kj13 l1 (x5_2.set (((rd_T98 l0_1 (rd l1 x6_2)).f1) : Int).toNat true) (wrap64 (x6_2 + 1)) a0_0 l0_1) = some r := by rw [if_neg (show ¬ (false = true) by decide)] at H; exact H
     clear H
     have H := H1
     clear H1
     obtain ⟨y425, hy425⟩ : ∃ y_ : List Bool, y_ = (x5_2.set (((rd_T98 l0_1 (rd l1 x6_2)).f1) : Int).toNat true) := ⟨_, rfl⟩
     replace H : (compassref04_Circle.l0 kj13 l1 y425 (wrap64 (x6_2 + 1)) a0_0 l0_1) = some r := by first | (rw [hy425]; exact H) | exact H
     have Ny425 := ak hy425
     clear hy425
     have H' := ak H
     clear H
     have p416 : 0 ≤ ((ji21) : Int) := oda
     have q416 : (ji21) < (l1.length : Int) := oda
     obtain ⟨ad416, e416, hx416_0⟩ := Kd.at_int HR1.out (ji21) p416 q416
     cases e416
     (try replace hx416_0 := hbc HB hx416_0)
     replace p416 := eq_true p416
     replace q416 := eq_true q416
     try go_wp2
     have n0_ := ak (Kd.R_drew HO_5.out)
     have n1_ := ak (blk_drew BK410.out)
     have n2_ := ak (below_drew1 HB.out)
     clear HO_5
     clear BK410
     clear HB
     have HO_5 := n0_
     have BK410 := n1_
     have HB := n2_
     clear n0_ n1_ n2_
     have p417 : 0 ≤ (x6_2 : Int) := oda
     have q417 : x6_2 < (l1.length : Int) := oda
     obtain ⟨ad417, e417, hx417_0⟩ := Kd.at_int HR1.out x6_2 p417 q417
     have hw417_0 := hx417_0
     obtain rfl : ad416 = ad417 := (by injection e417)
     (try replace hx417_0 := hbc HB hx417_0)
     replace p417 := eq_true p417
     replace q417 := eq_true q417
     have p418 : 0 ≤ ((rd l1 x6_2) : Int) := oda
     have q418 : (rd l1 x6_2) < (l0_1.length : Int) := oda
     obtain ⟨ad418, e418, hx418_0, hx418_1, hx418_2, hx418_3⟩ := at_T98 HR0_1.out (rd l1 x6_2) p418 q418
     have hw418_3 := hx418_3
     have hw418_2 := hx418_2
     have hw418_1 := hx418_1
     have hw418_0 := hx418_0
     cases e418
     (try replace hx418_0 := hbc HB hx418_0)
     (try replace hx418_1 := hbc HB hx418_1)
     (try replace hx418_2 := hbc HB hx418_2)
     (try replace hx418_3 := hbc HB hx418_3)
     replace p418 := eq_true p418
     replace q418 := eq_true q418
     have p419 : 0 ≤ ((rd l1 (ji21)) : Int) := oda
     have q419 : (rd l1 (ji21)) < (l0_1.length : Int) := oda
     obtain ⟨ad419, e419, hx419_0, hx419_1, hx419_2, hx419_3⟩ := at_T98 HR0_1.out (rd l1 (ji21)) p419 q419
     have hw419_3 := hx419_3
     have hw419_2 := hx419_2
     have hw419_1 := hx419_1
     have hw419_0 := hx419_0
     obtain rfl : ad418 = ad419 := (by injection e419)
     (try replace hx419_0 := hbc HB hx419_0)
     (try replace hx419_1 := hbc HB hx419_1)
     (try replace hx419_2 := hbc HB hx419_2)
     (try replace hx419_3 := hbc HB hx419_3)
     replace p419 := eq_true p419
     replace q419 := eq_true q419
     have p420 : 0 ≤ (x6_2 : Int) := oda
     have q420 : x6_2 < (l1.length : Int) := oda
     obtain ⟨ad420, e420, hx420_0⟩ := Kd.at_int HR1.out x6_2 p420 q420
     have hw420_0 := hx420_0
     obtain rfl : ad416 = ad420 := (by injection e420)
     (try replace hx420_0 := hbc HB hx420_0)
     replace p420 := eq_true p420
     replace q420 := eq_true q420
     have p421 : 0 ≤ ((rd l1 x6_2) : Int) := oda
     have q421 : (rd l1 x6_2) < (l0_1.length : Int) := oda
     obtain ⟨ad421, e421, hx421_0, hx421_1, hx421_2, hx421_3⟩ := at_T98 HR0_1.out (rd l1 x6_2) p421 q421
     have hw421_3 := hx421_3
     have hw421_2 := hx421_2
     have hw421_1 := hx421_1
     have hw421_0 := hx421_0
     obtain rfl : ad418 = ad421 := (by injection e421)
     (try replace hx421_0 := hbc HB hx421_0)
     (try replace hx421_1 := hbc HB hx421_1)
     (try replace hx421_2 := hbc HB hx421_2)
     (try replace hx421_3 := hbc HB hx421_3)
     replace p421 := eq_true p421
     replace q421 := eq_true q421
     obtain ⟨Ao43, co43, eo43⟩ := Kd.R_slice HO_5.out
     (first | subst eo43 | (injection eo43 with f1_ f2_ f3_; have f4_ := f1_.symm; have f5_ := f3_.symm; clear f1_ f2_ f3_; subst f4_; subst f5_))
     have p422 : 0 ≤ (((rd_T98 l0_1 (rd l1 x6_2)).f1) : Int) := oda
     have q422 : ((rd_T98 l0_1 (rd l1 x6_2)).f1) < (x5_2.length : Int) := oda
     obtain ⟨ad422, e422, hx422_0⟩ := Kd.at_bool (Kd.R_reads' HO_5.out).2.2 ((rd_T98 l0_1 (rd l1 x6_2)).f1) p422 q422
     (try rw [← Nbq37.out] at hx422_0)
     cases e422
     replace p422 := eq_true p422
     replace q422 := eq_true q422
     refine stC 41 [] (cX (bc0 BK410) (cX (bc1 BK410) (cX (hbc HB hw417_0) (cX (hbc HB hw418_0) (cX (hbc HB hw418_1) (cX (hbc HB hw418_2) (cX (hbc HB hw418_3) (cX (hbc HB hw419_0) (cX (hbc HB hw419_1) (cX (hbc HB hw419_2) (cX (hbc HB hw419_3) (cX (hbc HB hw420_0) (cX (hbc HB hw421_0) (cX (hbc HB hw421_1) (cX (hbc HB hw421_2) (cX (hbc HB hw421_3) (cY hx422_0))))))))))))))))) compassref04_Circle.tab10 compassref04_Circle.bits10 fun hHeld HT_ HW_ => ?_
     generalize wc.drew = w42 at HO_5 BK410 HB hx417_0 hx418_0 hx418_1 hx418_2 hx418_3 hx419_0 hx419_1 hx419_2 hx419_3 hx420_0 hx421_0 hx421_1 hx421_2 hx421_3 hx422_0 hHeld ⊢
     refine pv HT_ 0 51 ?_; refine pv HT_ 1 52 ?_; refine pv HT_ 2 53 ?_; refine pv HT_ 3 54 ?_; refine pv HT_ 4 55 ?_; refine tv HT_ HW_ hHeld 5 56 ?_; refine pv HT_ 6 57 ?_; refine pv HT_ 7 58 ?_; refine pv HT_ 8 59 ?_; refine pv HT_ 9 60 ?_; refine pv HT_ 10 61 ?_; refine pv HT_ 12 63 ?_; refine pv HT_ 13 64 ?_; refine pv HT_ 14 65 ?_; refine pv HT_ 19 70 ?_; refine pv HT_ 21 72 ?_; refine tv HT_ HW_ hHeld 11 62 ?_; refine tv HT_ HW_ hHeld 15 66 ?_; refine pv HT_ 16 67 ?_; refine pv HT_ 17 68 ?_; refine tv HT_ HW_ hHeld 18 69 ?_; refine tv HT_ HW_ hHeld 20 71 ?_; refine pv HT_ 22 73 ?_; refine pv HT_ 23 74 ?_; refine tv HT_ HW_ hHeld 24 75 ?_; refine pv HT_ 25 76 ?_; refine pv HT_ 26 77 ?_; refine pv HT_ 27 78 ?_; refine pv HT_ 28 79 ?_; refine pv HT_ 29 80 ?_; refine pv HT_ 31 82 ?_; refine pv HT_ 32 83 ?_; refine pv HT_ 33 84 ?_; refine tv HT_ HW_ hHeld 30 81 ?_; refine tv HT_ HW_ hHeld 34 85 ?_; refine pv HT_ 35 86 ?_; refine pv HT_ 36 87 ?_; refine tv HT_ HW_ hHeld 37 88 ?_; refine pv HT_ 38 89 ?_; refine tv HT_ HW_ hHeld 39 90 ?_; refine pv HT_ 40 91 ?_
     refine done_ (done_of HT_.out (by kernel_rfl)) ?_
     try go_wp2
     have n0_ := ak (Kd.R_drew HO_5.out)
     have n1_ := ak (blk_drew BK410.out)
     have n2_ := ak (below_drew1 HB.out)
     clear HO_5
     clear BK410
     clear HB
     have HO_5 := n0_
     have BK410 := n1_
     have HB := n2_
     clear n0_ n1_ n2_
     have p423 : 0 ≤ (x6_2 : Int) := oda
     have q423 : x6_2 < (l1.length : Int) := oda
     obtain ⟨ad423, e423, hx423_0⟩ := Kd.at_int HR1.out x6_2 p423 q423
     have hw423_0 := hx423_0
     obtain rfl : ad416 = ad423 := (by injection e423)
     (try replace hx423_0 := hbc HB hx423_0)
     replace p423 := eq_true p423
     replace q423 := eq_true q423
     have p424 : 0 ≤ ((rd l1 x6_2) : Int) := oda
     have q424 : (rd l1 x6_2) < (l0_1.length : Int) := oda
     obtain ⟨ad424, e424, hx424_0, hx424_1, hx424_2, hx424_3⟩ := at_T98 HR0_1.out (rd l1 x6_2) p424 q424
     have hw424_3 := hx424_3
     have hw424_2 := hx424_2
     have hw424_1 := hx424_1
     have hw424_0 := hx424_0
     obtain rfl : ad418 = ad424 := (by injection e424)
     (try replace hx424_0 := hbc HB hx424_0)
     (try replace hx424_1 := hbc HB hx424_1)
     (try replace hx424_2 := hbc HB hx424_2)
     (try replace hx424_3 := hbc HB hx424_3)
     replace p424 := eq_true p424
     replace q424 := eq_true q424
     have p41 : 0 ≤ (((rd_T98 l0_1 (rd l1 x6_2)).f1) : Int) := oda
     have q41 : (((rd_T98 l0_1 (rd l1 x6_2)).f1) : Int) < ((x5_2.length : Int) : Int) := oda
     obtain ⟨go41, co41, eo41, gb41, gl41, cl41, HG41⟩ := Kd.R_form HO_5.out (by omega)
     (first | cases eo41 | (injection eo41 with ea_ en_ ec_; (first | subst ea_ | (injection ea_ with ea_; subst ea_)); subst ec_; clear en_))
     have GB41 := ak gb41
     have GG41 := ak HG41
     clear gb41 gl41 HG41
     (first | simp only [add_plain] at hx422_0 | skip)
     obtain ⟨hx41_0, hf41_0⟩ := Kd.R_celln false HO_5.out (((rd_T98 l0_1 (rd l1 x6_2)).f1) : Int) p41 q41
     replace p41 := eq_true p41
     replace q41 := eq_true q41
     have HP45 := Kd.R_putn HO_5.out (((rd_T98 l0_1 (rd l1 x6_2)).f1) : Int) true
     rw [← Ny425.out] at HP45
     have HQ45 := ak HP45
     clear HP45
     refine stC 12 [11] (cX (bc0 BK410) (cX (bc1 BK410) (cX (hbc HB hw423_0) (cX (hbc HB hw424_0) (cX (hbc HB hw424_1) (cX (hbc HB hw424_2) (cY (hbc HB hw424_3)))))))) compassref04_Circle.tab12 compassref04_Circle.bits12 fun hHeld HT_ HW_ => ?_
     generalize w42.drew = w44 at HO_5 BK410 HB GG41 HQ45 hf41_0 hx41_0 hx422_0 hx423_0 hx424_0 hx424_1 hx424_2 hx424_3 hHeld ⊢
     refine pv HT_ 0 92 ?_; refine pv HT_ 1 93 ?_; refine pv HT_ 3 95 ?_; refine pv HT_ 4 96 ?_; refine pv HT_ 5 97 ?_; refine tv HT_ HW_ hHeld 2 94 ?_; refine tv HT_ HW_ hHeld 6 98 ?_; refine pv HT_ 7 99 ?_; refine pv HT_ 8 100 ?_; refine tv HT_ HW_ hHeld 9 101 ?_; refine pv HT_ 10 102 ?_
     refine last_ (i := 11) (N := none) #[true, true, true, true, true, true, true, true, true, true, true, true] rfl rfl (one_of HT_.out (by kernel_rfl)) (by decide) (fun K hK => ?_)
     refine skip_ (w1 := ?_) (by rfl) rfl ?_ ?_
     rotate_left
     ·
      go_simp
      rfl
     refine hK.out _ _ ?_
     clear hK K
     refine done_ (done_of HT_.out (by kernel_rfl)) ?_
     try go_wp2
     go_roundg kj13
     case measure => have := HJ2.out; have := HK2.out; have := HJ13.out; omega
     case rel => exact ⟨(y425), (wrap64 (x6_2 + 1)), sr, H', ⟨by have := HJ2.out; have := HK2.out; have := HJ13.out; omega⟩, ⟨by (with_reducible repeat (first | apply Kd.R_alloc | apply Kd.R_drewN | apply Kd.R_drew)); exact HQ45.out⟩, ⟨by (with_reducible repeat (first | refine blk_drewN ?_ _ | refine blk_drew ?_ | refine blk_alloc ?_ _)); refine blk_far ?_ (by have h_ := Kd.R_ne HO_5.out BK410.out (by decide); intro e_; exact h_ (by rw [e_]; rfl)) _; exact bx BK410.out⟩, ⟨by repeat (first | (with_reducible first | exact HB.out | apply below_alloc | apply pw_below_drewN | apply below_drew1 | refine below_set ?_ GB41.out | refine below_set ?_ GE410.out) | exact HB.out)⟩⟩
end Go.Proofs.Ytkdoihcjhccliaa.Q
