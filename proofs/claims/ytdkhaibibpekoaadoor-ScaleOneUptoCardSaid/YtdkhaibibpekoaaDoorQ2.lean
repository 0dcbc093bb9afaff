-- PRINTED by print.py (a twelfth state) out of the translation. Not trusted: Lean checks it.
import Derived.Test.YtdkhaibibpekoaaDoorQ0
import Derived.Test.YtdkhaibibpekoaaDoorQ1
namespace Go.Proofs.YtdkhaibibpekoaaDoor.Q
open Go.RowKit Go.Proofs.YtdkhaibibpekoaaDoorW.PrintWords Go.Proofs.YtdkhaibibpekoaaDoorW.PrintLast Go.Proofs.YtdkhaibibpekoaaDoorW.PrintMore
attribute [local go_sem] max2_int min2_int max_two min_two max_three min_three max_four min_four   -- for this text's walks alone
set_option linter.unusedVariables false
set_option linter.unusedSimpArgs false

/-! ### scale_parts: function 19 -/
def scale_parts.f (k : Nat) (a0 : Nat) : Option (Int × Int) := if (Go.FloatKind.f64.format.order a0 0 == some .eq) = true then (some (0, 0)) else ((math_Frexp.f k a0).bind fun bt109 => (if (Go.floatBits .mul .f64 bt109.1 4845873199050653696).isSome = true then (if (Go.floatToIntVal .f64 ((Go.floatBits .mul .f64 bt109.1 4845873199050653696).getD 0) .i64).isSome = true then ((bits_TrailingZeros64.f (IntKind.u64.wrap ((Go.floatToIntVal .f64 ((Go.floatBits .mul .f64 bt109.1 4845873199050653696).getD 0) .i64).getD 0))).bind fun t111 => (if 0 ≤ t111 then (some (shr .i64 ((Go.floatToIntVal .f64 ((Go.floatBits .mul .f64 bt109.1 4845873199050653696).getD 0) .i64).getD 0) t111, wrap64 ((wrap64 (bt109.2 - 53)) + t111))) else (none))) else (none)) else (none)))
theorem scale_parts.mono : ∀ a0 k, LeO (scale_parts.f k a0) (scale_parts.f (k + 1) a0) := by
  intro a0 k
  unfold scale_parts.f
  repeat' first
      | (with_reducible exact math_Frexp.mono _ _)
      | (with_reducible exact LeO.refl _)
      | (with_reducible exact LeO.none _)
      | (with_reducible refine LeO.ite ?_ ?_)
      | (with_reducible refine LeO.bind ?_ (fun _ => ?_))
      | exact math_Frexp.mono _ _
      | exact LeO.none _
      | refine LeO.ite ?_ ?_
      | refine LeO.bind ?_ (fun _ => ?_)
set_option maxHeartbeats 8000000 in
set_option maxRecDepth 100000 in
theorem scale_parts.calls (k : Nat) (a0 : Nat) (r1 : Int) (r2 : Int) (w : World) (h : scale_parts.f k a0 = some (r1, r2)) (hL : Laid w := by first | exact HL.out | exact Laid.drewN HL.out _ | exact Laid.below HL.out (by repeat (first | (with_reducible first | exact HB.out | apply below_alloc | apply pw_below_drewN | apply below_drew1) | exact HB.out | exact Below.refl _ _))) :
    Calls Tryd.prog 19 #[.float .f64 a0] w fun e w' => e = .returned (.tuple #[.int .i64 r1, .int .i64 r2]) ∧ Drawn0 w w' := by
  have HL := Aside0.mk hL
  clear hL
  have hxd35_2 := ftoi_law (P := Tryd.prog) 35 2 (by kernel_rfl) Tryd.underlying2
  have hxmul := @fmul_law Tryd.prog
  have H : (if (Go.FloatKind.f64.format.order a0 0 == some .eq) = true then (some (0, 0)) else ((math_Frexp.f k a0).bind fun bt109 => (if (Go.floatBits .mul .f64 bt109.1 4845873199050653696).isSome = true then (if (Go.floatToIntVal .f64 ((Go.floatBits .mul .f64 bt109.1 4845873199050653696).getD 0) .i64).isSome = true then ((bits_TrailingZeros64.f (IntKind.u64.wrap ((Go.floatToIntVal .f64 ((Go.floatBits .mul .f64 bt109.1 4845873199050653696).getD 0) .i64).getD 0))).bind fun t111 => (if 0 ≤ t111 then (some (shr .i64 ((Go.floatToIntVal .f64 ((Go.floatBits .mul .f64 bt109.1 4845873199050653696).getD 0) .i64).getD 0) t111, wrap64 ((wrap64 (bt109.2 - 53)) + t111))) else (none))) else (none)) else (none)))) = some (r1, r2) := h
  clear h
  by_cases c2 : (Go.FloatKind.f64.format.order a0 0 == some .eq) = true
  · rw [if_pos c2] at H
    have c2b0 : (Go.FloatKind.f64.format.order a0 0 == some .eq) = true := c2
    (try (have c2b1 : decide (Go.FloatKind.f64.format.order a0 0 = some .eq) = true := by simpa using c2))
    (try (have c2b2 : (Go.FloatKind.f64.format.order a0 0 == some .eq) = true := by simpa using c2))
    clear c2
    simp only [Option.some.injEq, Prod.mk.injEq] at H
    obtain ⟨rfl, rfl⟩ := H
    go_enter Tryd.func19, Tryd.ntmps19
    go_wp2
    go_ret2
    exact ⟨by first | rfl | (simp; done) | (simp [*]; done), by repeat (first | exact Drawn0.refl _ | apply Drawn0.step)⟩
  · rw [if_neg c2] at H
    have c2b0 : (Go.FloatKind.f64.format.order a0 0 == some .eq) = false := by simpa using c2
    (try (have c2b1 : decide (Go.FloatKind.f64.format.order a0 0 = some .eq) = false := by simpa using c2))
    (try (have c2b2 : (Go.FloatKind.f64.format.order a0 0 == some .eq) = false := by simpa using c2))
    (try (have c2b3 : ¬ (Go.FloatKind.f64.format.order a0 0 = some .eq) := by simpa using c2))
    clear c2
    replace H := Option.bind_eq_some_iff.mp H
    obtain ⟨⟨t109, t110⟩, A30, H⟩ := H
    replace H : (if (Go.floatBits .mul .f64 t109 4845873199050653696).isSome = true then (if (Go.floatToIntVal .f64 ((Go.floatBits .mul .f64 t109 4845873199050653696).getD 0) .i64).isSome = true then ((bits_TrailingZeros64.f (IntKind.u64.wrap ((Go.floatToIntVal .f64 ((Go.floatBits .mul .f64 t109 4845873199050653696).getD 0) .i64).getD 0))).bind fun t111 => (if 0 ≤ t111 then (some (shr .i64 ((Go.floatToIntVal .f64 ((Go.floatBits .mul .f64 t109 4845873199050653696).getD 0) .i64).getD 0) t111, wrap64 ((wrap64 (t110 - 53)) + t111))) else (none))) else (none)) else (none)) = some (r1, r2) := H
    have A3 := Aside0.mk A30
    clear A30
    by_cases c4 : (Go.floatBits .mul .f64 t109 4845873199050653696).isSome = true
    · rw [if_pos c4] at H
      have c4b0 := eq_true c4
      have c4b1 : decide ((Go.floatBits .mul .f64 t109 4845873199050653696).isSome = true) = true := decide_eq_true c4
      clear c4
      by_cases c5 : (Go.floatToIntVal .f64 ((Go.floatBits .mul .f64 t109 4845873199050653696).getD 0) .i64).isSome = true
      · rw [if_pos c5] at H
        have c5b0 := eq_true c5
        have c5b1 : decide ((Go.floatToIntVal .f64 ((Go.floatBits .mul .f64 t109 4845873199050653696).getD 0) .i64).isSome = true) = true := decide_eq_true c5
        clear c5
        replace H := Option.bind_eq_some_iff.mp H
        obtain ⟨t111, A60, H⟩ := H
        replace H : (if 0 ≤ t111 then (some (shr .i64 ((Go.floatToIntVal .f64 ((Go.floatBits .mul .f64 t109 4845873199050653696).getD 0) .i64).getD 0) t111, wrap64 ((wrap64 (t110 - 53)) + t111))) else (none)) = some (r1, r2) := H
        have A6 := Aside0.mk A60
        clear A60
        by_cases c7 : 0 ≤ t111
        · rw [if_pos c7] at H
          have c7b0 := eq_true c7
          have c7b1 : decide (0 ≤ t111) = true := decide_eq_true c7
          clear c7
          obtain ⟨ji8, hji8⟩ : ∃ j_ : Int, (shr .i64 ((Go.floatToIntVal .f64 ((Go.floatBits .mul .f64 t109 4845873199050653696).getD 0) .i64).getD 0) t111) = j_ := ⟨_, rfl⟩
          replace H : (some (ji8, wrap64 ((wrap64 (t110 - 53)) + t111))) = some (r1, r2) := by first | (rw [hji8] at H; exact H) | (simp only [hji8] at H ⊢; exact H)
          (try rw [hji8] at A3)
          (try rw [hji8] at A6)
          have hji8_ : (((Go.floatToIntVal .f64 ((Go.floatBits .mul .f64 t109 4845873199050653696).getD 0) .i64).getD 0) / 2 ^ min t111.toNat 64) = ji8 := hji8
          have hji8z : t111 ≤ 64 → (((Go.floatToIntVal .f64 ((Go.floatBits .mul .f64 t109 4845873199050653696).getD 0) .i64).getD 0) / 2 ^ t111.toNat) = ji8 := shr_small hji8
          simp only [Option.some.injEq, Prod.mk.injEq] at H
          obtain ⟨rfl, rfl⟩ := H
          go_enter Tryd.func19, Tryd.ntmps19
          go_wp2_with (first | ((with_reducible refine gate_callee (f := 33) rfl ?_); refine goesL_ (some 12) rfl rfl Tryd.func33 (by kernel_rfl) rfl #[.float .f64 a0] rfl (by (try simp only [List.map_toArray, List.map_cons, List.map_nil]); first | done | rfl | (simp only [List.length_drop, List.length_take]; rfl)) ?_; (with_reducible refine (math_Frexp.calls k a0 t109 t110 _ A3.out).mono ?_); rintro e w' ⟨rfl, ⟨nd, rfl⟩⟩; refine ⟨_, rfl, ?_⟩) | ((with_reducible refine gate_callee (f := 34) rfl ?_); refine goesL_ (some 20) rfl rfl Tryd.func34 (by kernel_rfl) rfl #[.int .u64 (IntKind.u64.wrap ((Go.floatToIntVal .f64 ((Go.floatBits .mul .f64 t109 4845873199050653696).getD 0) .i64).getD 0))] rfl (by (try simp only [List.map_toArray, List.map_cons, List.map_nil]); first | done | rfl | (simp only [List.length_drop, List.length_take]; rfl)) ?_; (with_reducible refine (bits_TrailingZeros64.calls (IntKind.u64.wrap ((Go.floatToIntVal .f64 ((Go.floatBits .mul .f64 t109 4845873199050653696).getD 0) .i64).getD 0)) t111 _ A6.out).mono ?_); rintro e w' ⟨rfl, ⟨nd, rfl⟩⟩; refine ⟨_, rfl, ?_⟩))
          go_ret2
          exact ⟨by first | rfl | (simp; done) | (simp only [← hji8] <;> (first | rfl | simp)) | (simp [*]; done), by repeat (first | exact Drawn0.refl _ | apply Drawn0.step)⟩
        · rw [if_neg c7] at H
          exact absurd H (by simp)
      · rw [if_neg c5] at H
        exact absurd H (by simp)
    · rw [if_neg c4] at H
      exact absurd H (by simp)

end Go.Proofs.YtdkhaibibpekoaaDoor.Q
