-- PRINTED by print.py (a twelfth state) out of the translation. Not trusted: Lean checks it.
import Derived.Test.YtkdoihcjhccliaaQ0
import Derived.Test.YtkdoihcjhccliaaQ51
namespace Go.Proofs.Ytkdoihcjhccliaa.Q
open Go.RowKit Go.Proofs.YtkdoihcjhccliaaW.PrintWords Go.Proofs.YtkdoihcjhccliaaW.PrintLast Go.Proofs.YtkdoihcjhccliaaW.PrintMore
attribute [local go_sem] max2_int min2_int max_two min_two max_three min_three max_four min_four   -- for this text's walks alone
set_option linter.unusedVariables false
set_option linter.unusedSimpArgs false

/-! ### safeint_Order: function 46 -/
def safeint_Order.j0 : Nat → Int → Int → Int → Int → Bool → Option (Int × Int)
  | 0, _, _, _, _, _ => none
  | k + 1, x0, x1, x2, x3, x16 => if x16 = true then (some (0, 11)) else ((safeint_Product.f x0 x3).bind fun bt576 => ((safeint_Product.f x2 x1).bind fun bt578 => ((safeint_Compare.f k bt576.1 bt576.2 bt578.1 bt578.2).bind fun t580 => (if ((decide (x1 < 0)) != (decide (x3 < 0))) = true then (some (wrap64 (-t580), 0)) else (some (t580, 0))))))
def safeint_Order.f (k : Nat) (a0 : Int) (a1 : Int) (a2 : Int) (a3 : Int) : Option (Int × Int) := if a1 = 0 then (safeint_Order.j0 k a0 a1 a2 a3 true) else (safeint_Order.j0 k a0 a1 a2 a3 (a3 == 0))
set_option maxHeartbeats 8000000 in
set_option maxRecDepth 100000 in
theorem safeint_Order.calls (k : Nat) (a0 : Int) (a1 : Int) (a2 : Int) (a3 : Int) (r1 : Int) (r2 : Int) (w : World) (h : safeint_Order.f k a0 a1 a2 a3 = some (r1, r2)) :
    Calls Try.prog 46 #[.int .i64 a0, .int .i64 a1, .int .i64 a2, .int .i64 a3] w fun e w' => e = .returned (.tuple #[.int .i64 r1, .int .i64 r2]) ∧ Below w.heap.size w w' := by
 have HB := ak (Below.refl w.heap.size w)
 have H : (if a1 = 0 then (safeint_Order.j0 k a0 a1 a2 a3 true) else (safeint_Order.j0 k a0 a1 a2 a3 (a3 == 0))) = some (r1, r2) := h
 clear h
 have HC5 := ak H
 clear H
 go_enter Try.func46, Try.ntmps46
 go_upto_region 1 with (fail)
 go_cut [16] (fun v16 wc => ∃ (kq : Nat) (x16_4 : Bool), v16 = .bool x16_4 ∧ Aside0 (safeint_Order.j0 kq a0 a1 a2 a3 x16_4 = some (r1, r2)) ∧ Aside0 (kq ≤ k) ∧ Aside0 (Below w.heap.size w wc))
 case first =>
  have H := HC5.out
  clear HC5
  by_cases c6 : a1 = 0
  rotate_left
  ·
   rw [if_neg c6] at H
   have c6b0 := bn c6
   have c6b1 : (a1 != 0) = true := bne_iff_ne.mpr c6
   (first | rw [c6b0] | (simp only [i64_w, i32_w]; rw [c6b0]) | skip)
   have H' := ak H
   clear H
   go_wp2
   go_meet
   case rel => exact ⟨_, ((a3 == 0)), sr, H', ⟨by first | omega | exact Nat.le_refl _⟩, ⟨lb⟩⟩
  rw [if_pos c6] at H
  have c6b0 := be c6
  have c6b1 : (a1 != 0) = false := bne_eq_false_iff_eq.mpr c6
  clear c6
  (first | rw [c6b0] | (simp only [i64_w, i32_w]; rw [c6b0]) | skip)
  have H' := ak H
  clear H
  go_wp2
  go_meet
  case rel => exact ⟨_, (true), sr, H', ⟨by first | omega | exact Nat.le_refl _⟩, ⟨lb⟩⟩
 case rest =>
  clear HC5
  try clear p2; try clear c4; try clear c6; try clear c6b0; try clear c6b1
  obtain ⟨kq, x16_4, rfl, HA, HJ4, HB⟩ := hcut
  cases kq with
  | zero => exact absurd HA.out (by simp [safeint_Order.j0])
  | succ kj4 =>
   have H := HA.out
   clear HA
   simp only [safeint_Order.j0] at H
   by_cases c7 : x16_4 = true
   ·
    subst c7
    have H1 : (some (0, 11)) = some (r1, r2) := by rw [if_pos rfl] at H; exact H
    clear H
    have H := H1
    clear H1
    simp only [Option.some.injEq, Prod.mk.injEq] at H
    obtain ⟨rfl, rfl⟩ := H
    go_wp2
    go_ret2
    exact ⟨er, lb⟩
   replace c7 := Bool.eq_false_iff.mpr c7
   subst c7
   have H1 : ((safeint_Product.f a0 a3).bind fun bt576 => ((safeint_Product.f a2 a1).bind fun bt578 => ((safeint_Compare.f kj4 bt576.1 bt576.2 bt578.1 bt578.2).bind fun t580 => (if ((decide (a1 < 0)) != (decide (a3 < 0))) = true then (some (wrap64 (-t580), 0)) else (some (t580, 0)))))) = some (r1, r2) := by rw [if_neg (show ¬ (false = true) by decide)] at H; exact H
   clear H
   have H := H1
   clear H1
   replace H := Option.bind_eq_some_iff.mp H
   obtain ⟨⟨t576, t577⟩, A80, H⟩ := H
   replace H : ((safeint_Product.f a2 a1).bind fun bt578 => ((safeint_Compare.f kj4 t576 t577 bt578.1 bt578.2).bind fun t580 => (if ((decide (a1 < 0)) != (decide (a3 < 0))) = true then (some (wrap64 (-t580), 0)) else (some (t580, 0))))) = some (r1, r2) := H
   have A8 := ak A80
   clear A80
   replace H := Option.bind_eq_some_iff.mp H
   obtain ⟨⟨t578, t579⟩, A90, H⟩ := H
   replace H : ((safeint_Compare.f kj4 t576 t577 t578 t579).bind fun t580 => (if ((decide (a1 < 0)) != (decide (a3 < 0))) = true then (some (wrap64 (-t580), 0)) else (some (t580, 0)))) = some (r1, r2) := H
   have A9 := ak A90
   clear A90
   replace H := Option.bind_eq_some_iff.mp H
   obtain ⟨t580, A100, H⟩ := H
   replace H : (if ((decide (a1 < 0)) != (decide (a3 < 0))) = true then (some (wrap64 (-t580), 0)) else (some (t580, 0))) = some (r1, r2) := H
   have A10 := ak A100
   clear A100
   by_cases c11 : ((decide (a1 < 0)) != (decide (a3 < 0))) = true
   rotate_left
   ·
    rw [if_neg c11] at H
    have c11b0 : ((decide (a1 < 0)) != (decide (a3 < 0))) = false := by simpa using c11
    (try (have c11b1 : decide ((decide (a1 < 0)) = (decide (a3 < 0))) = true := by simpa using c11))
    (try (have c11b2 : ((decide (a1 < 0)) == (decide (a3 < 0))) = true := by simpa using c11))
    clear c11
    simp only [Option.some.injEq, Prod.mk.injEq] at H
    obtain ⟨rfl, rfl⟩ := H
    go_wp2_with (first | ((with_reducible refine gate_callee (f := 85) rfl ?_); refine gl 19 Try.func85 #[.int .i64 a0, .int .i64 a3] ?_; (with_reducible refine (safeint_Product.calls a0 a3 t576 t577 _ A8.out).mono ?_); rintro e w15 ⟨rfl, hb⟩; refine ⟨_, rfl, ?_⟩; have n0_ := ak (bl hb); clear HB; have HB := n0_; clear n0_; clear hb) | ((with_reducible refine gate_callee (f := 85) rfl ?_); refine gl 22 Try.func85 #[.int .i64 a2, .int .i64 a1] ?_; (with_reducible refine (safeint_Product.calls a2 a1 t578 t579 _ A9.out).mono ?_); rintro e w16 ⟨rfl, hb⟩; refine ⟨_, rfl, ?_⟩; have n0_ := ak (bl hb); clear HB; have HB := n0_; clear n0_; clear hb) | ((with_reducible refine gate_callee (f := 84) rfl ?_); refine gl 23 Try.func84 #[.agg #[.int .i64 t576, .int .u64 t577], .agg #[.int .i64 t578, .int .u64 t579]] ?_; (with_reducible refine (safeint_Compare.calls kj4 t576 t577 t578 t579 t580 _ A10.out).mono ?_); rintro e w17 ⟨rfl, hb⟩; refine ⟨_, rfl, ?_⟩; have n0_ := ak (bl hb); clear HB; have HB := n0_; clear n0_; clear hb))
    go_ret2
    exact ⟨er, lb⟩

   rw [if_pos c11] at H
   have c11b0 : ((decide (a1 < 0)) != (decide (a3 < 0))) = true := c11
   (try (have c11b1 : decide ((decide (a1 < 0)) = (decide (a3 < 0))) = false := by simpa using c11))
   (try (have c11b2 : ((decide (a1 < 0)) == (decide (a3 < 0))) = false := by simpa using c11))
   (try (have c11b3 : ¬ ((decide (a1 < 0)) = (decide (a3 < 0))) := by simpa using c11))
   clear c11
   simp only [Option.some.injEq, Prod.mk.injEq] at H
   obtain ⟨rfl, rfl⟩ := H
   go_wp2_with (first | ((with_reducible refine gate_callee (f := 85) rfl ?_); refine gl 19 Try.func85 #[.int .i64 a0, .int .i64 a3] ?_; (with_reducible refine (safeint_Product.calls a0 a3 t576 t577 _ A8.out).mono ?_); rintro e w12 ⟨rfl, hb⟩; refine ⟨_, rfl, ?_⟩; have n0_ := ak (bl hb); clear HB; have HB := n0_; clear n0_; clear hb) | ((with_reducible refine gate_callee (f := 85) rfl ?_); refine gl 22 Try.func85 #[.int .i64 a2, .int .i64 a1] ?_; (with_reducible refine (safeint_Product.calls a2 a1 t578 t579 _ A9.out).mono ?_); rintro e w13 ⟨rfl, hb⟩; refine ⟨_, rfl, ?_⟩; have n0_ := ak (bl hb); clear HB; have HB := n0_; clear n0_; clear hb) | ((with_reducible refine gate_callee (f := 84) rfl ?_); refine gl 23 Try.func84 #[.agg #[.int .i64 t576, .int .u64 t577], .agg #[.int .i64 t578, .int .u64 t579]] ?_; (with_reducible refine (safeint_Compare.calls kj4 t576 t577 t578 t579 t580 _ A10.out).mono ?_); rintro e w14 ⟨rfl, hb⟩; refine ⟨_, rfl, ?_⟩; have n0_ := ak (bl hb); clear HB; have HB := n0_; clear n0_; clear hb))
   go_ret2
   exact ⟨er, lb⟩
end Go.Proofs.Ytkdoihcjhccliaa.Q
