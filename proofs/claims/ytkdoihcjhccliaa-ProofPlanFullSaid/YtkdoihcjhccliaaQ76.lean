import Derived.Test.YtkdoihcjhccliaaV4
import Derived.Test.YtkdoihcjhccliaaQ0
import Derived.Test.YtkdoihcjhccliaaQ3
import Derived.Test.YtkdoihcjhccliaaQ23
import Derived.Test.YtkdoihcjhccliaaQ74
import Derived.Test.YtkdoihcjhccliaaQ75
namespace Go.Proofs.Ytkdoihcjhccliaa.Q
open Go.RowKit Go.Proofs.YtkdoihcjhccliaaW.PrintWords Go.Proofs.YtkdoihcjhccliaaW.PrintLast Go.Proofs.YtkdoihcjhccliaaW.PrintMore
attribute [local go_sem] max2_int min2_int max_two min_two max_three min_three max_four min_four   -- for this text's walks alone
set_option linter.unusedVariables false
set_option linter.unusedSimpArgs false

/-! ### compassref08_Potentials: function 73 -/
def compassref08_Potentials.f (k : Nat) (a0_0 : Int) (l0_1 : List (S98)) : Option (List Int × Int) := (compassref03_Check.f k a0_0 l0_1).bind fun bt586 => (if bt586.1 = 0 then (if 0 ≤ a0_0 then (if (a0_0 : Int).toNat ≤ 35184372088832 then ((compassref08_rounds.f k a0_0 l0_1 (List.replicate (a0_0 : Int).toNat 0) a0_0).bind fun t591 => ((compassref08_settled.f k a0_0 l0_1 t591).bind fun t594 => (if t594 = true then (some (t591, 0)) else (some (([] : List Int), 80))))) else (none)) else (none)) else (some (([] : List Int), bt586.1)))
def compassref08_Potentials.T4 : Bool × List (List Nat × List Nat) := (true, [([], []), ([], []), ([1], [1]), ([2, 2], [2]), ([], []), ([4], [4]), ([0, 3, 5], [0, 3, 5]), ([6, 6, 0, 1, 2, 3, 4, 5, 6], [6])])
def compassref08_Potentials.B4 : List Nat := [0, 0, 2, 6, 0, 16, 63, 127]
theorem compassref08_Potentials.tab4 : rtab .any (opsOf Try.f73 4) = compassref08_Potentials.T4 := by kernel_rfl
theorem compassref08_Potentials.bits4 : waitsOk compassref08_Potentials.T4.2 compassref08_Potentials.B4 = true := by kernel_rfl
set_option maxHeartbeats 8000000 in
set_option maxRecDepth 100000 in
theorem compassref08_Potentials.calls (k : Nat) (a0_0 : Int) (A0_1 : Option Addr) (c0_1 : Nat) (l0_1 : List (S98)) (r1 : List Int) (r2 : Int) (w : World) (hr0_1 : Kd.C k98 w A0_1 l0_1.length l0_1) (hc0_1 : l0_1.length ≤ c0_1) (h : compassref08_Potentials.f k a0_0 l0_1 = some (r1, r2)) :
    Calls Try.prog 73 #[.agg #[.int .i64 a0_0, .slice A0_1 l0_1.length c0_1]] w fun e w' => ∃ v0_ : Value, e = .returned (.tuple #[v0_, .int .i64 r2]) ∧ Kd.V (Kd.int .i64) 2 w' w.heap.size (fun k_ => (w.heap.size ≤ k_)) v0_ r1 ∧ Below w.heap.size w w' := by
 have hu24 := Try.underlying24; have HR0_1 := ak hr0_1; have HC0_1 := ak hc0_1; clear hr0_1 hc0_1; have HB := ak (Below.refl w.heap.size w); have H : ((compassref03_Check.f k a0_0 l0_1).bind fun bt586 => (if bt586.1 = 0 then (if 0 ≤ a0_0 then (if (a0_0 : Int).toNat ≤ 35184372088832 then ((compassref08_rounds.f k a0_0 l0_1 (List.replicate (a0_0 : Int).toNat 0) a0_0).bind fun t591 => ((compassref08_settled.f k a0_0 l0_1 t591).bind fun t594 => (if t594 = true then (some (t591, 0)) else (some (([] : List Int), 80))))) else (none)) else (none)) else (some (([] : List Int), bt586.1)))) = some (r1, r2) := h; clear h; replace H := Option.bind_eq_some_iff.mp H; obtain ⟨⟨t586, t587⟩, A20, H⟩ := H; dsimp only at H; have A2 := ak A20; clear A20
 by_cases c3 : t586 = 0
 rotate_left
 ·
  rw [if_neg c3] at H; have c3b := bn2 c3
  simp only [Option.some.injEq, Prod.mk.injEq] at H
  obtain ⟨rfl, rfl⟩ := H
  go_enter Try.func73, Try.ntmps73
  go_wp2_with (first | ((with_reducible refine gate_dst (N := 1) rfl ?_); refine bxe 1 #[.int .i64 a0_0, .slice A0_1 l0_1.length c0_1] 24 ?_; intro gb585 hg w31 hbox hb; have n0_ := ak (bl hb); have n1_ := ak (hbox); have n2_ := ak (gw w hg); have n3_ := ak (gw w hg); clear HB; have HB := n0_; have BK585 := n1_; have GW585 := n2_; have GE585 := n3_; clear n0_ n1_ n2_ n3_; clear hb hbox hg; have ⟨_, _, _, _⟩ := cf2 BK585) | ((with_reducible refine gate_callee (f := 44) rfl ?_); refine gl 9 Try.func44 #[.agg #[.int .i64 a0_0, .slice A0_1 l0_1.length c0_1]] ?_; (with_reducible refine (compassref03_Check.calls k a0_0 _ _ l0_1 t586 t587 _ (Kd.C_below HR0_1.out lb) HC0_1.out A2.out).mono ?_); rintro e w33 ⟨rfl, hb⟩; refine ⟨_, rfl, ?_⟩; have n0_ := ak (bo BK585 hb); have n1_ := ak (bl hb); clear BK585; clear HB; have BK585 := n0_; have HB := n1_; clear n0_ n1_; clear hb))
  go_ret2
  exact ⟨_, by first | rfl | (simp [errW_none, errW_some] <;> rfl) | (simp [*, errW_none, errW_some] <;> rfl), Kd.V_nil _ _ _ _ _, lb⟩
 rw [if_pos c3] at H; have c3b := be2 c3; clear c3; replace H := ife H; obtain ⟨c4b0, c4b1, H⟩ := H; replace H := ife H; obtain ⟨c5b0, c5b1, H⟩ := H; obtain ⟨y588, hy588⟩ : ∃ y_ : List Int, y_ = (List.replicate (a0_0 : Int).toNat 0) := ⟨_, rfl⟩; replace H : ((compassref08_rounds.f k a0_0 l0_1 y588 a0_0).bind fun t591 => ((compassref08_settled.f k a0_0 l0_1 t591).bind fun t594 => (if t594 = true then (some (t591, 0)) else (some (([] : List Int), 80))))) = some (r1, r2) := by first | (rw [hy588]; exact H) | exact H
 have Ny588 := ak hy588; clear hy588; replace H := Option.bind_eq_some_iff.mp H; obtain ⟨t591, A60, H⟩ := H; have A6 := ak A60; clear A60; replace H := Option.bind_eq_some_iff.mp H; obtain ⟨t594, A70, H⟩ := H; have A7 := ak A70; clear A70
 by_cases c8 : t594 = true
 ·
  subst c8
  replace H := ip H
  simp only [Option.some.injEq, Prod.mk.injEq] at H
  obtain ⟨rfl, rfl⟩ := H
  go_enter Try.func73, Try.ntmps73
  try go_wp2_with (first | ((with_reducible refine gate_dst (N := 1) rfl ?_); refine bxe 1 #[.int .i64 a0_0, .slice A0_1 l0_1.length c0_1] 24 ?_; intro gb585 hg w9 hbox hb; have n0_ := ak (bl hb); have n1_ := ak (hbox); have n2_ := ak (gw w hg); have n3_ := ak (gw w hg); clear HB; have HB := n0_; have BK585 := n1_; have GW585 := n2_; have GE585 := n3_; clear n0_ n1_ n2_ n3_; clear hb hbox hg; have ⟨_, _, _, _⟩ := cf2 BK585) | ((with_reducible refine gate_callee (f := 44) rfl ?_); refine gl 9 Try.func44 #[.agg #[.int .i64 a0_0, .slice A0_1 l0_1.length c0_1]] ?_; (with_reducible refine (compassref03_Check.calls k a0_0 _ _ l0_1 t586 t587 _ (Kd.C_below HR0_1.out lb) HC0_1.out A2.out).mono ?_); rintro e w11 ⟨rfl, hb⟩; refine ⟨_, rfl, ?_⟩; have n0_ := ak (bo BK585 hb); have n1_ := ak (bl hb); clear BK585; clear HB; have BK585 := n0_; have HB := n1_; clear n0_ n1_; clear hb))
  have n0_ := ak (blk_drew BK585.out); have n1_ := ak (below_drew1 HB.out); clear BK585; clear HB; have BK585 := n0_; have HB := n1_; clear n0_ n1_
  refine stC 8 [] (cX (bc0 BK585) (cY (bc1 BK585))) compassref08_Potentials.tab4 compassref08_Potentials.bits4 fun hHeld HT_ HW_ => ?_
  generalize w11.drew = w12 at BK585 HB hHeld ⊢
  refine pv HT_ 1 16 ?_; refine pv HT_ 4 19 ?_; refine tv HT_ HW_ hHeld 0 15 ?_; refine tv HT_ HW_ hHeld 2 17 ?_; refine tv HT_ HW_ hHeld 5 20 ?_
  refine one_ (i := 3) (N := some 18) #[T, T, T, T, T, T, F, F] rfl rfl (one_of HT_.out (by kernel_rfl)) (by decide) (fun K hK => ?_)
  refine Kd.R_make_step (Kd.int .i64) _ 2 (by rfl) (N := 18) rfl 25 _ _ rfl a0_0 rfl rfl Try.underlying25 (.int .i64 0) 8 info2 rfl (by decide) (by omega) 0 (ok := fun _ => True) (okp := fun _ => True) rfl (fun _ hk => hk) trivial (oda) (Nat.le_trans (Nat.mul_le_mul_right _ (oda : a0_0.toNat ≤ 35184372088832)) (by omega)) (Below.refl _ _) (Nat.le_refl _) ?_
  intro v589 w13 ho14 hb hg_ hnew_; clear hg_ hnew_
  (first | rw [← Ny588.out] at ho14 | (simp only [Int.reduceToNat] at ho14; rw [← Ny588.out] at ho14))
  have n0_ := ak (Kd.R_lower (Kd.R_newM (M := fun k_ => (w.heap.size ≤ k_)) ho14 (below_size lb) (fun k_ h_ => h_)) (below_size lb)); have n1_ := ak (bo BK585 hb); have n2_ := ak (bl hb); clear BK585; clear HB; have HO590 := n0_; have BK585 := n1_; have HB := n2_; clear n0_ n1_ n2_; clear hb ho14; obtain ⟨Ao15, co15, eo15⟩ := Kd.R_slice HO590.out
  (first | subst eo15 | (injection eo15 with f1_ f2_ f3_; have f4_ := f1_.symm; have f5_ := f3_.symm; clear f1_ f2_ f3_; subst f4_; subst f5_))
  refine hK.out _ _ ⟨(blk_cell BK585.out 0).trans rfl, (blk_cell BK585.out 1).trans rfl⟩ (fun hHeld => ?_)
  clear hK K
  refine norm_ (a' := ?_) ?_ ?_
  rotate_left
  ·
   show Act.put _ (some 18) _ = _
   simp only [Act.put, sA, sZ, sS, i64_w, i32_w]
   rfl
  refine one_ (i := 6) (N := some 21) #[T, T, T, T, T, T, T, F] rfl rfl (one_of HT_.out (by kernel_rfl)) (by decide) (fun K hK => ?_)
  refine goes_ Try.func89 (by kernel_rfl) rfl #[.agg #[.int .i64 a0_0, .slice A0_1 l0_1.length c0_1], .slice Ao15 y588.length co15, .int .i64 a0_0] (by rfl) rfl rfl (by (try simp only [List.map_toArray, List.map_cons, List.map_nil]); first | done | rfl | (simp only [List.length_drop, List.length_take]; rfl)) ?_
  with_reducible refine (compassref08_rounds.calls k a0_0 _ _ l0_1 (fun k_ => some k_ = (.slice Ao15 y588.length co15 : Value).ownBlock) _ _ y588 a0_0 t591 _ (Kd.C_below HR0_1.out lb) HC0_1.out (Kd.R_V (Kd.R_tight rfl (Kd.R_types (HO590.out) BK585.out (by decide)))) A6.out).mono ?_
  rintro e w16 ⟨v592, rfl, ho0, hb⟩
  refine ⟨_, rfl, ?_⟩
  have n0_ := ak (ro HO590 hb)
  have n1_ := ak (Kd.V_lower (Kd.V_mono (ok' := fun k_ => (w.heap.size ≤ k_) ∧ k_ ≠ gb585) ho0 (fun k_ hk_ => ⟨Or.elim hk_ (fun hs_ => ((Kd.R_types (HO590.out) BK585.out (by decide)).1 k_ hs_.symm).1.1) (fun hn_ => (Nat.le_trans (below_size lb) hn_)), Or.elim hk_ (fun hs_ => ((Kd.R_types (HO590.out) BK585.out (by decide)).1 k_ hs_.symm).2) (fun hn_ => (Kd.freshB (g := gb585) (o := .cells #[.int .i64 a0_0, .slice A0_1 l0_1.length c0_1] 24 (0, 0)) (bx BK585.out) k_ hn_))⟩)) (below_size lb))
  have n2_ := ak (bo BK585 hb); have n3_ := ak (bl hb); clear HO590; clear BK585; clear HB; have HO590 := n0_; have HO593 := n1_; have BK585 := n2_; have HB := n3_; clear n0_ n1_ n2_ n3_
  (try clear hb)
  (try clear hb2)
  (try clear hk)
  (try clear hi)
  (try clear ho0)
  refine hK.out _ _ ⟨(blk_cell BK585.out 0).trans rfl, (blk_cell BK585.out 1).trans rfl⟩ (fun hHeld => ?_)
  clear hK K
  refine norm_ (a' := ?_) ?_ ?_
  rotate_left
  ·
   show Act.put _ (some 21) _ = _
   simp only [Act.put, sA, sZ, sS, i64_w, i32_w]
   rfl
  refine pv HT_ 7 6 ?_
  refine done_ (done_of HT_.out (by kernel_rfl)) ?_
  have ⟨_, _, _, _⟩ := cf2 BK585; obtain ⟨Ao18, co18, eo18⟩ := Kd.V_slice HO593.out; subst eo18
  try go_wp2_with (first | ((with_reducible refine gate_callee (f := 90) rfl ?_); refine gl 24 Try.func90 #[.agg #[.int .i64 a0_0, .slice A0_1 l0_1.length c0_1], .slice Ao18 t591.length co18] ?_; (with_reducible refine (compassref08_settled.calls k a0_0 _ _ l0_1 _ _ t591 true _ ?side1 ?side2 ?side3 ?side4 A7.out).mono ?_); (case side1 => exact Kd.C_below HR0_1.out lb); (case side2 => exact HC0_1.out); (case side3 => repeat (first | exact (Kd.V_reads' HO593.out).2.2 | (with_reducible refine Kd.C_alloc ?_ _) | (with_reducible refine Kd.C_drewN ?_ _) | (with_reducible refine Kd.C_drew ?_))); (case side4 => exact (Kd.V_reads' HO593.out).2.1); rintro e w19 ⟨rfl, hb⟩; refine ⟨_, rfl, ?_⟩; have n0_ := ak (ro HO590 hb); have n1_ := ak (Kd.V_below (vx HO593.out) hb); have n2_ := ak (bo BK585 hb); have n3_ := ak (bl hb); clear HO590; clear HO593; clear BK585; clear HB; have HO590 := n0_; have HO593 := n1_; have BK585 := n2_; have HB := n3_; clear n0_ n1_ n2_ n3_; clear hb))
  go_ret2
  exact ⟨_, by first | rfl | (simp [errW_none, errW_some] <;> rfl) | (simp [*, errW_none, errW_some] <;> rfl), by exact vx (Kd.V_mono HO593.out (fun _ hk => hk.1)), lb⟩
 replace c8 := Bool.eq_false_iff.mpr c8; subst c8
 have H1 : (some (([] : List Int), 80)) = some (r1, r2) := by rw [if_neg (show ¬ (false = true) by decide)] at H; exact H
 clear H; have H := H1; clear H1
 simp only [Option.some.injEq, Prod.mk.injEq] at H
 obtain ⟨rfl, rfl⟩ := H
 go_enter Try.func73, Try.ntmps73
 try go_wp2_with (first | ((with_reducible refine gate_dst (N := 1) rfl ?_); refine bxe 1 #[.int .i64 a0_0, .slice A0_1 l0_1.length c0_1] 24 ?_; intro gb585 hg w20 hbox hb; have n0_ := ak (bl hb); have n1_ := ak (hbox); have n2_ := ak (gw w hg); have n3_ := ak (gw w hg); clear HB; have HB := n0_; have BK585 := n1_; have GW585 := n2_; have GE585 := n3_; clear n0_ n1_ n2_ n3_; clear hb hbox hg; have ⟨_, _, _, _⟩ := cf2 BK585) | ((with_reducible refine gate_callee (f := 44) rfl ?_); refine gl 9 Try.func44 #[.agg #[.int .i64 a0_0, .slice A0_1 l0_1.length c0_1]] ?_; (with_reducible refine (compassref03_Check.calls k a0_0 _ _ l0_1 t586 t587 _ (Kd.C_below HR0_1.out lb) HC0_1.out A2.out).mono ?_); rintro e w22 ⟨rfl, hb⟩; refine ⟨_, rfl, ?_⟩; have n0_ := ak (bo BK585 hb); have n1_ := ak (bl hb); clear BK585; clear HB; have BK585 := n0_; have HB := n1_; clear n0_ n1_; clear hb))
 have n0_ := ak (blk_drew BK585.out); have n1_ := ak (below_drew1 HB.out); clear BK585; clear HB; have BK585 := n0_; have HB := n1_; clear n0_ n1_
 refine stC 8 [] (cX (bc0 BK585) (cY (bc1 BK585))) compassref08_Potentials.tab4 compassref08_Potentials.bits4 fun hHeld HT_ HW_ => ?_
 generalize w22.drew = w23 at BK585 HB hHeld ⊢
 refine pv HT_ 1 16 ?_; refine pv HT_ 4 19 ?_; refine tv HT_ HW_ hHeld 0 15 ?_; refine tv HT_ HW_ hHeld 2 17 ?_; refine tv HT_ HW_ hHeld 5 20 ?_
 refine one_ (i := 3) (N := some 18) #[T, T, T, T, T, T, F, F] rfl rfl (one_of HT_.out (by kernel_rfl)) (by decide) (fun K hK => ?_)
 refine Kd.R_make_step (Kd.int .i64) _ 2 (by rfl) (N := 18) rfl 25 _ _ rfl a0_0 rfl rfl Try.underlying25 (.int .i64 0) 8 info2 rfl (by decide) (by omega) 0 (ok := fun _ => True) (okp := fun _ => True) rfl (fun _ hk => hk) trivial (oda) (Nat.le_trans (Nat.mul_le_mul_right _ (oda : a0_0.toNat ≤ 35184372088832)) (by omega)) (Below.refl _ _) (Nat.le_refl _) ?_
 intro v589 w24 ho25 hb hg_ hnew_; clear hg_ hnew_
 (first | rw [← Ny588.out] at ho25 | (simp only [Int.reduceToNat] at ho25; rw [← Ny588.out] at ho25))
 have n0_ := ak (Kd.R_lower (Kd.R_newM (M := fun k_ => (w.heap.size ≤ k_)) ho25 (below_size lb) (fun k_ h_ => h_)) (below_size lb)); have n1_ := ak (bo BK585 hb); have n2_ := ak (bl hb); clear BK585; clear HB; have HO590 := n0_; have BK585 := n1_; have HB := n2_; clear n0_ n1_ n2_; clear hb ho25; obtain ⟨Ao26, co26, eo26⟩ := Kd.R_slice HO590.out
 (first | subst eo26 | (injection eo26 with f1_ f2_ f3_; have f4_ := f1_.symm; have f5_ := f3_.symm; clear f1_ f2_ f3_; subst f4_; subst f5_))
 refine hK.out _ _ ⟨(blk_cell BK585.out 0).trans rfl, (blk_cell BK585.out 1).trans rfl⟩ (fun hHeld => ?_)
 clear hK K
 refine norm_ (a' := ?_) ?_ ?_
 rotate_left
 ·
  show Act.put _ (some 18) _ = _
  simp only [Act.put, sA, sZ, sS, i64_w, i32_w]
  rfl
 refine one_ (i := 6) (N := some 21) #[T, T, T, T, T, T, T, F] rfl rfl (one_of HT_.out (by kernel_rfl)) (by decide) (fun K hK => ?_)
 refine goes_ Try.func89 (by kernel_rfl) rfl #[.agg #[.int .i64 a0_0, .slice A0_1 l0_1.length c0_1], .slice Ao26 y588.length co26, .int .i64 a0_0] (by rfl) rfl rfl (by (try simp only [List.map_toArray, List.map_cons, List.map_nil]); first | done | rfl | (simp only [List.length_drop, List.length_take]; rfl)) ?_
 with_reducible refine (compassref08_rounds.calls k a0_0 _ _ l0_1 (fun k_ => some k_ = (.slice Ao26 y588.length co26 : Value).ownBlock) _ _ y588 a0_0 t591 _ (Kd.C_below HR0_1.out lb) HC0_1.out (Kd.R_V (Kd.R_tight rfl (Kd.R_types (HO590.out) BK585.out (by decide)))) A6.out).mono ?_
 rintro e w27 ⟨v592, rfl, ho0, hb⟩
 refine ⟨_, rfl, ?_⟩
 have n0_ := ak (ro HO590 hb)
 have n1_ := ak (Kd.V_lower (Kd.V_mono (ok' := fun k_ => (w.heap.size ≤ k_) ∧ k_ ≠ gb585) ho0 (fun k_ hk_ => ⟨Or.elim hk_ (fun hs_ => ((Kd.R_types (HO590.out) BK585.out (by decide)).1 k_ hs_.symm).1.1) (fun hn_ => (Nat.le_trans (below_size lb) hn_)), Or.elim hk_ (fun hs_ => ((Kd.R_types (HO590.out) BK585.out (by decide)).1 k_ hs_.symm).2) (fun hn_ => (Kd.freshB (g := gb585) (o := .cells #[.int .i64 a0_0, .slice A0_1 l0_1.length c0_1] 24 (0, 0)) (bx BK585.out) k_ hn_))⟩)) (below_size lb))
 have n2_ := ak (bo BK585 hb); have n3_ := ak (bl hb); clear HO590; clear BK585; clear HB; have HO590 := n0_; have HO593 := n1_; have BK585 := n2_; have HB := n3_; clear n0_ n1_ n2_ n3_
 (try clear hb)
 (try clear hb2)
 (try clear hk)
 (try clear hi)
 (try clear ho0)
 refine hK.out _ _ ⟨(blk_cell BK585.out 0).trans rfl, (blk_cell BK585.out 1).trans rfl⟩ (fun hHeld => ?_)
 clear hK K
 refine norm_ (a' := ?_) ?_ ?_
 rotate_left
 ·
  show Act.put _ (some 21) _ = _
  simp only [Act.put, sA, sZ, sS, i64_w, i32_w]
  rfl
 refine pv HT_ 7 6 ?_
 refine done_ (done_of HT_.out (by kernel_rfl)) ?_
 have ⟨_, _, _, _⟩ := cf2 BK585; obtain ⟨Ao29, co29, eo29⟩ := Kd.V_slice HO593.out; subst eo29
 try go_wp2_with (first | ((with_reducible refine gate_callee (f := 90) rfl ?_); refine gl 24 Try.func90 #[.agg #[.int .i64 a0_0, .slice A0_1 l0_1.length c0_1], .slice Ao29 t591.length co29] ?_; (with_reducible refine (compassref08_settled.calls k a0_0 _ _ l0_1 _ _ t591 false _ ?side1 ?side2 ?side3 ?side4 A7.out).mono ?_); (case side1 => exact Kd.C_below HR0_1.out lb); (case side2 => exact HC0_1.out); (case side3 => repeat (first | exact (Kd.V_reads' HO593.out).2.2 | (with_reducible refine Kd.C_alloc ?_ _) | (with_reducible refine Kd.C_drewN ?_ _) | (with_reducible refine Kd.C_drew ?_))); (case side4 => exact (Kd.V_reads' HO593.out).2.1); rintro e w30 ⟨rfl, hb⟩; refine ⟨_, rfl, ?_⟩; have n0_ := ak (ro HO590 hb); have n1_ := ak (Kd.V_below (vx HO593.out) hb); have n2_ := ak (bo BK585 hb); have n3_ := ak (bl hb); clear HO590; clear HO593; clear BK585; clear HB; have HO590 := n0_; have HO593 := n1_; have BK585 := n2_; have HB := n3_; clear n0_ n1_ n2_ n3_; clear hb))
 go_ret2
 exact ⟨_, by first | rfl | (simp [errW_none, errW_some] <;> rfl) | (simp [*, errW_none, errW_some] <;> rfl), Kd.V_nil _ _ _ _ _, lb⟩
end Go.Proofs.Ytkdoihcjhccliaa.Q
