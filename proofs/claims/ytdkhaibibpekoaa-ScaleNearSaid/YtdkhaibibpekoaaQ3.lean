-- PRINTED by print.py (a twelfth state) out of the translation. Not trusted: Lean checks it.
import Derived.Test.YtdkhaibibpekoaaQ0
namespace Go.Proofs.Ytdkhaibibpekoaa.Q
open Go.RowKit Go.Proofs.YtdkhaibibpekoaaW.PrintWords Go.Proofs.YtdkhaibibpekoaaW.PrintLast Go.Proofs.YtdkhaibibpekoaaW.PrintMore
attribute [local go_sem] max2_int min2_int max_two min_two max_three min_three max_four min_four   -- for this text's walks alone
set_option linter.unusedVariables false
set_option linter.unusedSimpArgs false

/-! ### math_archLdexp: function 27 -/
def math_archLdexp.f (a0 : Nat) (a1 : Int) : Option (Nat) := none
set_option maxHeartbeats 8000000 in
set_option maxRecDepth 100000 in
theorem math_archLdexp.calls (a0 : Nat) (a1 : Int) (r : Nat) (w : World) (h : math_archLdexp.f a0 a1 = some r) :
    Calls Try.prog 27 #[.float .f64 a0, .int .i64 a1] w fun e w' => e = .returned (.float .f64 r) ∧ Drawn0 w w' := by
  have H : (none) = some r := h
  clear h
  exact absurd H (by simp)

-- NOT PRINTED: function 8 (math_Float64frombits)

-- NOT PRINTED: function 15 (math_Float64bits)

/-! ### math_Copysign: function 7 -/
def math_Copysign.f (a0 : Nat) (a1 : Nat) : Option (Nat) := some ((Go.bits .or .u64 (Go.bits .andNot .u64 ((a0 : Nat) : Int) 9223372036854775808) (Go.bits .and .u64 ((a1 : Nat) : Int) 9223372036854775808) : Int).toNat)
set_option maxHeartbeats 8000000 in
set_option maxRecDepth 100000 in
theorem math_Copysign.calls (a0 : Nat) (a1 : Nat) (r : Nat) (w : World) (h : math_Copysign.f a0 a1 = some r) :
    Calls Try.prog 7 #[.float .f64 a0, .float .f64 a1] w fun e w' => e = .returned (.float .f64 r) ∧ Drawn0 w w' := by
  have hx8 := @ffrom_law
  have hx15 := @fbits_law
  have H : (some ((Go.bits .or .u64 (Go.bits .andNot .u64 ((a0 : Nat) : Int) 9223372036854775808) (Go.bits .and .u64 ((a1 : Nat) : Int) 9223372036854775808) : Int).toNat)) = some r := h
  clear h
  obtain rfl := Option.some.inj H
  go_enter Try.func7, Try.ntmps7
  go_wp2
  go_ret
  exact ⟨by first | rfl | (simp; done) | (simp [*]; done), by repeat (first | exact Drawn0.refl _ | apply Drawn0.step)⟩

/-! ### math_IsNaN: function 16 -/
def math_IsNaN.f (a0 : Nat) : Option (Bool) := some (Go.FloatKind.f64.format.order a0 a0 != some .eq)
set_option maxHeartbeats 8000000 in
set_option maxRecDepth 100000 in
theorem math_IsNaN.calls (a0 : Nat) (r : Bool) (w : World) (h : math_IsNaN.f a0 = some r) :
    Calls Try.prog 16 #[.float .f64 a0] w fun e w' => e = .returned (.bool r) ∧ Drawn0 w w' := by
  have H : (some (Go.FloatKind.f64.format.order a0 a0 != some .eq)) = some r := h
  clear h
  obtain rfl := Option.some.inj H
  go_enter Try.func16, Try.ntmps16
  go_wp2
  go_ret
  exact ⟨by first | rfl | (simp; done) | (simp [*]; done), by repeat (first | exact Drawn0.refl _ | apply Drawn0.step)⟩

/-! ### math_Abs: function 32 -/
def math_Abs.f (a0 : Nat) : Option (Nat) := some ((Go.bits .andNot .u64 ((a0 : Nat) : Int) 9223372036854775808 : Int).toNat)
set_option maxHeartbeats 8000000 in
set_option maxRecDepth 100000 in
theorem math_Abs.calls (a0 : Nat) (r : Nat) (w : World) (h : math_Abs.f a0 = some r) :
    Calls Try.prog 32 #[.float .f64 a0] w fun e w' => e = .returned (.float .f64 r) ∧ Drawn0 w w' := by
  have hx8 := @ffrom_law
  have hx15 := @fbits_law
  have H : (some ((Go.bits .andNot .u64 ((a0 : Nat) : Int) 9223372036854775808 : Int).toNat)) = some r := h
  clear h
  obtain rfl := Option.some.inj H
  go_enter Try.func32, Try.ntmps32
  go_wp2
  go_ret
  exact ⟨by first | rfl | (simp; done) | (simp [*]; done), by repeat (first | exact Drawn0.refl _ | apply Drawn0.step)⟩

/-! ### math_IsInf: function 29 -/
attribute [local go_sem] unary_neg_float   -- for this text's walks alone
def math_IsInf.f (a0 : Nat) (a1 : Int) : Option (Bool) := if a1 = 0 then ((math_Abs.f a0).bind fun t103 => (some (Go.FloatKind.f64.format.order t103 9218868437227405311 == some .gt))) else (if a1 < 0 then (some (Go.FloatKind.f64.format.order (Go.Op.negFloat .f64 a0) 9218868437227405311 == some .gt)) else (some (Go.FloatKind.f64.format.order a0 9218868437227405311 == some .gt)))
set_option maxHeartbeats 8000000 in
set_option maxRecDepth 100000 in
theorem math_IsInf.calls (a0 : Nat) (a1 : Int) (r : Bool) (w : World) (h : math_IsInf.f a0 a1 = some r) :
    Calls Try.prog 29 #[.float .f64 a0, .int .i64 a1] w fun e w' => e = .returned (.bool r) ∧ Drawn0 w w' := by
  have H : (if a1 = 0 then ((math_Abs.f a0).bind fun t103 => (some (Go.FloatKind.f64.format.order t103 9218868437227405311 == some .gt))) else (if a1 < 0 then (some (Go.FloatKind.f64.format.order (Go.Op.negFloat .f64 a0) 9218868437227405311 == some .gt)) else (some (Go.FloatKind.f64.format.order a0 9218868437227405311 == some .gt)))) = some r := h
  clear h
  by_cases c3 : a1 = 0
  · rw [if_pos c3] at H
    have c3b0 : (a1 == 0) = true := beq_iff_eq.mpr c3
    have c3b1 : (a1 != 0) = false := bne_eq_false_iff_eq.mpr c3
    clear c3
    replace H := Option.bind_eq_some_iff.mp H
    obtain ⟨t103, A40, H⟩ := H
    replace H : (some (Go.FloatKind.f64.format.order t103 9218868437227405311 == some .gt)) = some r := H
    have A4 := Aside0.mk A40
    clear A40
    obtain rfl := Option.some.inj H
    go_enter Try.func29, Try.ntmps29
    go_wp2_with (first | ((with_reducible refine gate_callee (f := 32) rfl ?_); refine goesL_ (some 8) rfl rfl Try.func32 (by kernel_rfl) rfl #[.float .f64 a0] rfl (by (try simp only [List.map_toArray, List.map_cons, List.map_nil]); first | done | rfl | (simp only [List.length_drop, List.length_take]; rfl)) ?_; (with_reducible refine (math_Abs.calls a0 t103 _ A4.out).mono ?_); rintro e w' ⟨rfl, ⟨nd, rfl⟩⟩; refine ⟨_, rfl, ?_⟩))
    go_ret
    exact ⟨by first | rfl | (simp; done) | (simp [*]; done), by repeat (first | exact Drawn0.refl _ | apply Drawn0.step)⟩
  · rw [if_neg c3] at H
    have c3b0 : (a1 == 0) = false := beq_eq_false_iff_ne.mpr c3
    have c3b1 : (a1 != 0) = true := bne_iff_ne.mpr c3
    by_cases c5 : a1 < 0
    · rw [if_pos c5] at H
      have c5b0 : decide (a1 < 0) = true := decide_eq_true c5
      clear c5
      obtain rfl := Option.some.inj H
      go_enter Try.func29, Try.ntmps29
      go_wp2
      go_ret
      exact ⟨by first | rfl | (simp; done) | (simp [*]; done), by repeat (first | exact Drawn0.refl _ | apply Drawn0.step)⟩
    · rw [if_neg c5] at H
      have c5b0 : decide (a1 < 0) = false := decide_eq_false c5
      clear c5
      obtain rfl := Option.some.inj H
      go_enter Try.func29, Try.ntmps29
      go_wp2
      go_ret
      exact ⟨by first | rfl | (simp; done) | (simp [*]; done), by repeat (first | exact Drawn0.refl _ | apply Drawn0.step)⟩

/-! ### math_normalize: function 30 -/
def math_normalize.f (a0 : Nat) : Option (Nat × Int) := (math_Abs.f a0).bind fun t104 => (if (Go.FloatKind.f64.format.order t104 4503599627370496 == some .lt) = true then (if (Go.floatBits .mul .f64 a0 4841369599423283200).isSome = true then (some ((Go.floatBits .mul .f64 a0 4841369599423283200).getD 0, (-52))) else (none)) else (some (a0, 0)))
set_option maxHeartbeats 8000000 in
set_option maxRecDepth 100000 in
theorem math_normalize.calls (a0 : Nat) (r1 : Nat) (r2 : Int) (w : World) (h : math_normalize.f a0 = some (r1, r2)) :
    Calls Try.prog 30 #[.float .f64 a0] w fun e w' => e = .returned (.tuple #[.float .f64 r1, .int .i64 r2]) ∧ Drawn0 w w' := by
  have hxmul := @fmul_law Try.prog
  have H : ((math_Abs.f a0).bind fun t104 => (if (Go.FloatKind.f64.format.order t104 4503599627370496 == some .lt) = true then (if (Go.floatBits .mul .f64 a0 4841369599423283200).isSome = true then (some ((Go.floatBits .mul .f64 a0 4841369599423283200).getD 0, (-52))) else (none)) else (some (a0, 0)))) = some (r1, r2) := h
  clear h
  replace H := Option.bind_eq_some_iff.mp H
  obtain ⟨t104, A20, H⟩ := H
  replace H : (if (Go.FloatKind.f64.format.order t104 4503599627370496 == some .lt) = true then (if (Go.floatBits .mul .f64 a0 4841369599423283200).isSome = true then (some ((Go.floatBits .mul .f64 a0 4841369599423283200).getD 0, (-52))) else (none)) else (some (a0, 0))) = some (r1, r2) := H
  have A2 := Aside0.mk A20
  clear A20
  by_cases c3 : (Go.FloatKind.f64.format.order t104 4503599627370496 == some .lt) = true
  · rw [if_pos c3] at H
    have c3b0 : (Go.FloatKind.f64.format.order t104 4503599627370496 == some .lt) = true := c3
    (try (have c3b1 : decide (Go.FloatKind.f64.format.order t104 4503599627370496 = some .lt) = true := by simpa using c3))
    (try (have c3b2 : (Go.FloatKind.f64.format.order t104 4503599627370496 == some .lt) = true := by simpa using c3))
    clear c3
    by_cases c4 : (Go.floatBits .mul .f64 a0 4841369599423283200).isSome = true
    · rw [if_pos c4] at H
      have c4b0 := eq_true c4
      have c4b1 : decide ((Go.floatBits .mul .f64 a0 4841369599423283200).isSome = true) = true := decide_eq_true c4
      clear c4
      simp only [Option.some.injEq, Prod.mk.injEq] at H
      obtain ⟨rfl, rfl⟩ := H
      go_enter Try.func30, Try.ntmps30
      go_wp2_with (first | ((with_reducible refine gate_callee (f := 32) rfl ?_); refine goesL_ (some 5) rfl rfl Try.func32 (by kernel_rfl) rfl #[.float .f64 a0] rfl (by (try simp only [List.map_toArray, List.map_cons, List.map_nil]); first | done | rfl | (simp only [List.length_drop, List.length_take]; rfl)) ?_; (with_reducible refine (math_Abs.calls a0 t104 _ A2.out).mono ?_); rintro e w' ⟨rfl, ⟨nd, rfl⟩⟩; refine ⟨_, rfl, ?_⟩))
      go_ret2
      exact ⟨by first | rfl | (simp; done) | (simp [*]; done), by repeat (first | exact Drawn0.refl _ | apply Drawn0.step)⟩
    · rw [if_neg c4] at H
      exact absurd H (by simp)
  · rw [if_neg c3] at H
    have c3b0 : (Go.FloatKind.f64.format.order t104 4503599627370496 == some .lt) = false := by simpa using c3
    (try (have c3b1 : decide (Go.FloatKind.f64.format.order t104 4503599627370496 = some .lt) = false := by simpa using c3))
    (try (have c3b2 : (Go.FloatKind.f64.format.order t104 4503599627370496 == some .lt) = false := by simpa using c3))
    (try (have c3b3 : ¬ (Go.FloatKind.f64.format.order t104 4503599627370496 = some .lt) := by simpa using c3))
    clear c3
    simp only [Option.some.injEq, Prod.mk.injEq] at H
    obtain ⟨rfl, rfl⟩ := H
    go_enter Try.func30, Try.ntmps30
    go_wp2_with (first | ((with_reducible refine gate_callee (f := 32) rfl ?_); refine goesL_ (some 5) rfl rfl Try.func32 (by kernel_rfl) rfl #[.float .f64 a0] rfl (by (try simp only [List.map_toArray, List.map_cons, List.map_nil]); first | done | rfl | (simp only [List.length_drop, List.length_take]; rfl)) ?_; (with_reducible refine (math_Abs.calls a0 t104 _ A2.out).mono ?_); rintro e w' ⟨rfl, ⟨nd, rfl⟩⟩; refine ⟨_, rfl, ?_⟩))
    go_ret2
    exact ⟨by first | rfl | (simp; done) | (simp [*]; done), by repeat (first | exact Drawn0.refl _ | apply Drawn0.step)⟩

/-! ### math_Inf: function 31 -/
def math_Inf.f (a0 : Int) : Option (Nat) := if a0 ≥ 0 then (some ((9218868437227405312 : Int).toNat)) else (some ((18442240474082181120 : Int).toNat))
set_option maxHeartbeats 8000000 in
set_option maxRecDepth 100000 in
theorem math_Inf.calls (a0 : Int) (r : Nat) (w : World) (h : math_Inf.f a0 = some r) :
    Calls Try.prog 31 #[.int .i64 a0] w fun e w' => e = .returned (.float .f64 r) ∧ Drawn0 w w' := by
  have hx8 := @ffrom_law
  have H : (if a0 ≥ 0 then (some ((9218868437227405312 : Int).toNat)) else (some ((18442240474082181120 : Int).toNat))) = some r := h
  clear h
  by_cases c2 : a0 ≥ 0
  · rw [if_pos c2] at H
    have c2b0 : decide (0 ≤ a0) = true := decide_eq_true c2
    clear c2
    obtain rfl := Option.some.inj H
    go_enter Try.func31, Try.ntmps31
    go_wp2
    go_ret
    exact ⟨by first | rfl | (simp; done) | (simp [*]; done), by repeat (first | exact Drawn0.refl _ | apply Drawn0.step)⟩
  · rw [if_neg c2] at H
    have c2b0 : decide (0 ≤ a0) = false := decide_eq_false c2
    clear c2
    obtain rfl := Option.some.inj H
    go_enter Try.func31, Try.ntmps31
    go_wp2
    go_ret
    exact ⟨by first | rfl | (simp; done) | (simp [*]; done), by repeat (first | exact Drawn0.refl _ | apply Drawn0.step)⟩

/-! ### math_ldexp: function 28 -/
def math_ldexp.f (a0 : Nat) (a1 : Int) : Option (Nat) := if (Go.FloatKind.f64.format.order a0 0 == some .eq) = true then (some a0) else ((math_IsInf.f a0 0).bind fun t105 => (if t105 = true then (some a0) else ((math_IsNaN.f a0).bind fun t106 => (if t106 = true then (some a0) else ((math_normalize.f a0).bind fun bt107 => (if (wrap64 ((wrap64 (a1 + bt107.2)) + (wrap64 ((Go.bits .and .i64 (wrap64 (((bt107.1 : Nat) : Int) / 4503599627370496)) 2047) - 1023)))) < (-1075) then ((math_Copysign.f 0 bt107.1).bind fun t109 => (some t109)) else (if (wrap64 ((wrap64 (a1 + bt107.2)) + (wrap64 ((Go.bits .and .i64 (wrap64 (((bt107.1 : Nat) : Int) / 4503599627370496)) 2047) - 1023)))) > 1023 then (if (Go.FloatKind.f64.format.order bt107.1 0 == some .lt) = true then ((math_Inf.f (-1)).bind fun t110 => (some t110)) else ((math_Inf.f 1).bind fun t111 => (some t111))) else (if (wrap64 ((wrap64 (a1 + bt107.2)) + (wrap64 ((Go.bits .and .i64 (wrap64 (((bt107.1 : Nat) : Int) / 4503599627370496)) 2047) - 1023)))) < (-1022) then (if (Go.floatBits .mul .f64 4368491638549381120 ((Go.bits .or .u64 (Go.bits .andNot .u64 ((bt107.1 : Nat) : Int) 9218868437227405312) (IntKind.u64.wrap ((IntKind.u64.wrap (wrap64 ((wrap64 ((wrap64 ((wrap64 (a1 + bt107.2)) + (wrap64 ((Go.bits .and .i64 (wrap64 (((bt107.1 : Nat) : Int) / 4503599627370496)) 2047) - 1023)))) + 53)) + 1023))) * 4503599627370496)) : Int).toNat)).isSome = true then (some ((Go.floatBits .mul .f64 4368491638549381120 ((Go.bits .or .u64 (Go.bits .andNot .u64 ((bt107.1 : Nat) : Int) 9218868437227405312) (IntKind.u64.wrap ((IntKind.u64.wrap (wrap64 ((wrap64 ((wrap64 ((wrap64 (a1 + bt107.2)) + (wrap64 ((Go.bits .and .i64 (wrap64 (((bt107.1 : Nat) : Int) / 4503599627370496)) 2047) - 1023)))) + 53)) + 1023))) * 4503599627370496)) : Int).toNat)).getD 0)) else (none)) else (if (Go.floatBits .mul .f64 4607182418800017408 ((Go.bits .or .u64 (Go.bits .andNot .u64 ((bt107.1 : Nat) : Int) 9218868437227405312) (IntKind.u64.wrap ((IntKind.u64.wrap (wrap64 ((wrap64 ((wrap64 (a1 + bt107.2)) + (wrap64 ((Go.bits .and .i64 (wrap64 (((bt107.1 : Nat) : Int) / 4503599627370496)) 2047) - 1023)))) + 1023))) * 4503599627370496)) : Int).toNat)).isSome = true then (some ((Go.floatBits .mul .f64 4607182418800017408 ((Go.bits .or .u64 (Go.bits .andNot .u64 ((bt107.1 : Nat) : Int) 9218868437227405312) (IntKind.u64.wrap ((IntKind.u64.wrap (wrap64 ((wrap64 ((wrap64 (a1 + bt107.2)) + (wrap64 ((Go.bits .and .i64 (wrap64 (((bt107.1 : Nat) : Int) / 4503599627370496)) 2047) - 1023)))) + 1023))) * 4503599627370496)) : Int).toNat)).getD 0)) else (none))))))))))
set_option maxHeartbeats 8000000 in
set_option maxRecDepth 100000 in
theorem math_ldexp.calls (a0 : Nat) (a1 : Int) (r : Nat) (w : World) (h : math_ldexp.f a0 a1 = some r) :
    Calls Try.prog 28 #[.float .f64 a0, .int .i64 a1] w fun e w' => e = .returned (.float .f64 r) ∧ Drawn0 w w' := by
  have hxmul := @fmul_law Try.prog
  have hx8 := @ffrom_law
  have hx15 := @fbits_law
  have H : (if (Go.FloatKind.f64.format.order a0 0 == some .eq) = true then (some a0) else ((math_IsInf.f a0 0).bind fun t105 => (if t105 = true then (some a0) else ((math_IsNaN.f a0).bind fun t106 => (if t106 = true then (some a0) else ((math_normalize.f a0).bind fun bt107 => (if (wrap64 ((wrap64 (a1 + bt107.2)) + (wrap64 ((Go.bits .and .i64 (wrap64 (((bt107.1 : Nat) : Int) / 4503599627370496)) 2047) - 1023)))) < (-1075) then ((math_Copysign.f 0 bt107.1).bind fun t109 => (some t109)) else (if (wrap64 ((wrap64 (a1 + bt107.2)) + (wrap64 ((Go.bits .and .i64 (wrap64 (((bt107.1 : Nat) : Int) / 4503599627370496)) 2047) - 1023)))) > 1023 then (if (Go.FloatKind.f64.format.order bt107.1 0 == some .lt) = true then ((math_Inf.f (-1)).bind fun t110 => (some t110)) else ((math_Inf.f 1).bind fun t111 => (some t111))) else (if (wrap64 ((wrap64 (a1 + bt107.2)) + (wrap64 ((Go.bits .and .i64 (wrap64 (((bt107.1 : Nat) : Int) / 4503599627370496)) 2047) - 1023)))) < (-1022) then (if (Go.floatBits .mul .f64 4368491638549381120 ((Go.bits .or .u64 (Go.bits .andNot .u64 ((bt107.1 : Nat) : Int) 9218868437227405312) (IntKind.u64.wrap ((IntKind.u64.wrap (wrap64 ((wrap64 ((wrap64 ((wrap64 (a1 + bt107.2)) + (wrap64 ((Go.bits .and .i64 (wrap64 (((bt107.1 : Nat) : Int) / 4503599627370496)) 2047) - 1023)))) + 53)) + 1023))) * 4503599627370496)) : Int).toNat)).isSome = true then (some ((Go.floatBits .mul .f64 4368491638549381120 ((Go.bits .or .u64 (Go.bits .andNot .u64 ((bt107.1 : Nat) : Int) 9218868437227405312) (IntKind.u64.wrap ((IntKind.u64.wrap (wrap64 ((wrap64 ((wrap64 ((wrap64 (a1 + bt107.2)) + (wrap64 ((Go.bits .and .i64 (wrap64 (((bt107.1 : Nat) : Int) / 4503599627370496)) 2047) - 1023)))) + 53)) + 1023))) * 4503599627370496)) : Int).toNat)).getD 0)) else (none)) else (if (Go.floatBits .mul .f64 4607182418800017408 ((Go.bits .or .u64 (Go.bits .andNot .u64 ((bt107.1 : Nat) : Int) 9218868437227405312) (IntKind.u64.wrap ((IntKind.u64.wrap (wrap64 ((wrap64 ((wrap64 (a1 + bt107.2)) + (wrap64 ((Go.bits .and .i64 (wrap64 (((bt107.1 : Nat) : Int) / 4503599627370496)) 2047) - 1023)))) + 1023))) * 4503599627370496)) : Int).toNat)).isSome = true then (some ((Go.floatBits .mul .f64 4607182418800017408 ((Go.bits .or .u64 (Go.bits .andNot .u64 ((bt107.1 : Nat) : Int) 9218868437227405312) (IntKind.u64.wrap ((IntKind.u64.wrap (wrap64 ((wrap64 ((wrap64 (a1 + bt107.2)) + (wrap64 ((Go.bits .and .i64 (wrap64 (((bt107.1 : Nat) : Int) / 4503599627370496)) 2047) - 1023)))) + 1023))) * 4503599627370496)) : Int).toNat)).getD 0)) else (none))))))))))) = some r := h
  clear h
  by_cases c3 : (Go.FloatKind.f64.format.order a0 0 == some .eq) = true
  · rw [if_pos c3] at H
    have c3b0 : (Go.FloatKind.f64.format.order a0 0 == some .eq) = true := c3
    (try (have c3b1 : decide (Go.FloatKind.f64.format.order a0 0 = some .eq) = true := by simpa using c3))
    (try (have c3b2 : (Go.FloatKind.f64.format.order a0 0 == some .eq) = true := by simpa using c3))
    clear c3
    obtain rfl := Option.some.inj H
    go_enter Try.func28, Try.ntmps28
    go_wp2
    go_ret
    exact ⟨by first | rfl | (simp; done) | (simp [*]; done), by repeat (first | exact Drawn0.refl _ | apply Drawn0.step)⟩
  · rw [if_neg c3] at H
    have c3b0 : (Go.FloatKind.f64.format.order a0 0 == some .eq) = false := by simpa using c3
    (try (have c3b1 : decide (Go.FloatKind.f64.format.order a0 0 = some .eq) = false := by simpa using c3))
    (try (have c3b2 : (Go.FloatKind.f64.format.order a0 0 == some .eq) = false := by simpa using c3))
    (try (have c3b3 : ¬ (Go.FloatKind.f64.format.order a0 0 = some .eq) := by simpa using c3))
    clear c3
    replace H := Option.bind_eq_some_iff.mp H
    obtain ⟨t105, A40, H⟩ := H
    replace H : (if t105 = true then (some a0) else ((math_IsNaN.f a0).bind fun t106 => (if t106 = true then (some a0) else ((math_normalize.f a0).bind fun bt107 => (if (wrap64 ((wrap64 (a1 + bt107.2)) + (wrap64 ((Go.bits .and .i64 (wrap64 (((bt107.1 : Nat) : Int) / 4503599627370496)) 2047) - 1023)))) < (-1075) then ((math_Copysign.f 0 bt107.1).bind fun t109 => (some t109)) else (if (wrap64 ((wrap64 (a1 + bt107.2)) + (wrap64 ((Go.bits .and .i64 (wrap64 (((bt107.1 : Nat) : Int) / 4503599627370496)) 2047) - 1023)))) > 1023 then (if (Go.FloatKind.f64.format.order bt107.1 0 == some .lt) = true then ((math_Inf.f (-1)).bind fun t110 => (some t110)) else ((math_Inf.f 1).bind fun t111 => (some t111))) else (if (wrap64 ((wrap64 (a1 + bt107.2)) + (wrap64 ((Go.bits .and .i64 (wrap64 (((bt107.1 : Nat) : Int) / 4503599627370496)) 2047) - 1023)))) < (-1022) then (if (Go.floatBits .mul .f64 4368491638549381120 ((Go.bits .or .u64 (Go.bits .andNot .u64 ((bt107.1 : Nat) : Int) 9218868437227405312) (IntKind.u64.wrap ((IntKind.u64.wrap (wrap64 ((wrap64 ((wrap64 ((wrap64 (a1 + bt107.2)) + (wrap64 ((Go.bits .and .i64 (wrap64 (((bt107.1 : Nat) : Int) / 4503599627370496)) 2047) - 1023)))) + 53)) + 1023))) * 4503599627370496)) : Int).toNat)).isSome = true then (some ((Go.floatBits .mul .f64 4368491638549381120 ((Go.bits .or .u64 (Go.bits .andNot .u64 ((bt107.1 : Nat) : Int) 9218868437227405312) (IntKind.u64.wrap ((IntKind.u64.wrap (wrap64 ((wrap64 ((wrap64 ((wrap64 (a1 + bt107.2)) + (wrap64 ((Go.bits .and .i64 (wrap64 (((bt107.1 : Nat) : Int) / 4503599627370496)) 2047) - 1023)))) + 53)) + 1023))) * 4503599627370496)) : Int).toNat)).getD 0)) else (none)) else (if (Go.floatBits .mul .f64 4607182418800017408 ((Go.bits .or .u64 (Go.bits .andNot .u64 ((bt107.1 : Nat) : Int) 9218868437227405312) (IntKind.u64.wrap ((IntKind.u64.wrap (wrap64 ((wrap64 ((wrap64 (a1 + bt107.2)) + (wrap64 ((Go.bits .and .i64 (wrap64 (((bt107.1 : Nat) : Int) / 4503599627370496)) 2047) - 1023)))) + 1023))) * 4503599627370496)) : Int).toNat)).isSome = true then (some ((Go.floatBits .mul .f64 4607182418800017408 ((Go.bits .or .u64 (Go.bits .andNot .u64 ((bt107.1 : Nat) : Int) 9218868437227405312) (IntKind.u64.wrap ((IntKind.u64.wrap (wrap64 ((wrap64 ((wrap64 (a1 + bt107.2)) + (wrap64 ((Go.bits .and .i64 (wrap64 (((bt107.1 : Nat) : Int) / 4503599627370496)) 2047) - 1023)))) + 1023))) * 4503599627370496)) : Int).toNat)).getD 0)) else (none))))))))) = some r := H
    have A4 := Aside0.mk A40
    clear A40
    by_cases c5 : t105 = true
    · subst c5
      have H1 : (some a0) = some r := by rw [if_pos rfl] at H; exact H
      clear H
      have H := H1
      clear H1
      obtain rfl := Option.some.inj H
      go_enter Try.func28, Try.ntmps28
      go_wp2_with (first | ((with_reducible refine gate_callee (f := 29) rfl ?_); refine goesL_ (some 14) rfl rfl Try.func29 (by kernel_rfl) rfl #[.float .f64 a0, .int .i64 0] rfl (by (try simp only [List.map_toArray, List.map_cons, List.map_nil]); first | done | rfl | (simp only [List.length_drop, List.length_take]; rfl)) ?_; (with_reducible refine (math_IsInf.calls a0 0 true _ A4.out).mono ?_); rintro e w' ⟨rfl, ⟨nd, rfl⟩⟩; refine ⟨_, rfl, ?_⟩))
      go_ret
      exact ⟨by first | rfl | (simp; done) | (simp [*]; done), by repeat (first | exact Drawn0.refl _ | apply Drawn0.step)⟩
    · replace c5 := Bool.eq_false_iff.mpr c5
      subst c5
      have H1 : ((math_IsNaN.f a0).bind fun t106 => (if t106 = true then (some a0) else ((math_normalize.f a0).bind fun bt107 => (if (wrap64 ((wrap64 (a1 + bt107.2)) + (wrap64 ((Go.bits .and .i64 (wrap64 (((bt107.1 : Nat) : Int) / 4503599627370496)) 2047) - 1023)))) < (-1075) then ((math_Copysign.f 0 bt107.1).bind fun t109 => (some t109)) else (if (wrap64 ((wrap64 (a1 + bt107.2)) + (wrap64 ((Go.bits .and .i64 (wrap64 (((bt107.1 : Nat) : Int) / 4503599627370496)) 2047) - 1023)))) > 1023 then (if (Go.FloatKind.f64.format.order bt107.1 0 == some .lt) = true then ((math_Inf.f (-1)).bind fun t110 => (some t110)) else ((math_Inf.f 1).bind fun t111 => (some t111))) else (if (wrap64 ((wrap64 (a1 + bt107.2)) + (wrap64 ((Go.bits .and .i64 (wrap64 (((bt107.1 : Nat) : Int) / 4503599627370496)) 2047) - 1023)))) < (-1022) then (if (Go.floatBits .mul .f64 4368491638549381120 ((Go.bits .or .u64 (Go.bits .andNot .u64 ((bt107.1 : Nat) : Int) 9218868437227405312) (IntKind.u64.wrap ((IntKind.u64.wrap (wrap64 ((wrap64 ((wrap64 ((wrap64 (a1 + bt107.2)) + (wrap64 ((Go.bits .and .i64 (wrap64 (((bt107.1 : Nat) : Int) / 4503599627370496)) 2047) - 1023)))) + 53)) + 1023))) * 4503599627370496)) : Int).toNat)).isSome = true then (some ((Go.floatBits .mul .f64 4368491638549381120 ((Go.bits .or .u64 (Go.bits .andNot .u64 ((bt107.1 : Nat) : Int) 9218868437227405312) (IntKind.u64.wrap ((IntKind.u64.wrap (wrap64 ((wrap64 ((wrap64 ((wrap64 (a1 + bt107.2)) + (wrap64 ((Go.bits .and .i64 (wrap64 (((bt107.1 : Nat) : Int) / 4503599627370496)) 2047) - 1023)))) + 53)) + 1023))) * 4503599627370496)) : Int).toNat)).getD 0)) else (none)) else (if (Go.floatBits .mul .f64 4607182418800017408 ((Go.bits .or .u64 (Go.bits .andNot .u64 ((bt107.1 : Nat) : Int) 9218868437227405312) (IntKind.u64.wrap ((IntKind.u64.wrap (wrap64 ((wrap64 ((wrap64 (a1 + bt107.2)) + (wrap64 ((Go.bits .and .i64 (wrap64 (((bt107.1 : Nat) : Int) / 4503599627370496)) 2047) - 1023)))) + 1023))) * 4503599627370496)) : Int).toNat)).isSome = true then (some ((Go.floatBits .mul .f64 4607182418800017408 ((Go.bits .or .u64 (Go.bits .andNot .u64 ((bt107.1 : Nat) : Int) 9218868437227405312) (IntKind.u64.wrap ((IntKind.u64.wrap (wrap64 ((wrap64 ((wrap64 (a1 + bt107.2)) + (wrap64 ((Go.bits .and .i64 (wrap64 (((bt107.1 : Nat) : Int) / 4503599627370496)) 2047) - 1023)))) + 1023))) * 4503599627370496)) : Int).toNat)).getD 0)) else (none)))))))) = some r := by rw [if_neg (show ¬ (false = true) by decide)] at H; exact H
      clear H
      have H := H1
      clear H1
      replace H := Option.bind_eq_some_iff.mp H
      obtain ⟨t106, A60, H⟩ := H
      replace H : (if t106 = true then (some a0) else ((math_normalize.f a0).bind fun bt107 => (if (wrap64 ((wrap64 (a1 + bt107.2)) + (wrap64 ((Go.bits .and .i64 (wrap64 (((bt107.1 : Nat) : Int) / 4503599627370496)) 2047) - 1023)))) < (-1075) then ((math_Copysign.f 0 bt107.1).bind fun t109 => (some t109)) else (if (wrap64 ((wrap64 (a1 + bt107.2)) + (wrap64 ((Go.bits .and .i64 (wrap64 (((bt107.1 : Nat) : Int) / 4503599627370496)) 2047) - 1023)))) > 1023 then (if (Go.FloatKind.f64.format.order bt107.1 0 == some .lt) = true then ((math_Inf.f (-1)).bind fun t110 => (some t110)) else ((math_Inf.f 1).bind fun t111 => (some t111))) else (if (wrap64 ((wrap64 (a1 + bt107.2)) + (wrap64 ((Go.bits .and .i64 (wrap64 (((bt107.1 : Nat) : Int) / 4503599627370496)) 2047) - 1023)))) < (-1022) then (if (Go.floatBits .mul .f64 4368491638549381120 ((Go.bits .or .u64 (Go.bits .andNot .u64 ((bt107.1 : Nat) : Int) 9218868437227405312) (IntKind.u64.wrap ((IntKind.u64.wrap (wrap64 ((wrap64 ((wrap64 ((wrap64 (a1 + bt107.2)) + (wrap64 ((Go.bits .and .i64 (wrap64 (((bt107.1 : Nat) : Int) / 4503599627370496)) 2047) - 1023)))) + 53)) + 1023))) * 4503599627370496)) : Int).toNat)).isSome = true then (some ((Go.floatBits .mul .f64 4368491638549381120 ((Go.bits .or .u64 (Go.bits .andNot .u64 ((bt107.1 : Nat) : Int) 9218868437227405312) (IntKind.u64.wrap ((IntKind.u64.wrap (wrap64 ((wrap64 ((wrap64 ((wrap64 (a1 + bt107.2)) + (wrap64 ((Go.bits .and .i64 (wrap64 (((bt107.1 : Nat) : Int) / 4503599627370496)) 2047) - 1023)))) + 53)) + 1023))) * 4503599627370496)) : Int).toNat)).getD 0)) else (none)) else (if (Go.floatBits .mul .f64 4607182418800017408 ((Go.bits .or .u64 (Go.bits .andNot .u64 ((bt107.1 : Nat) : Int) 9218868437227405312) (IntKind.u64.wrap ((IntKind.u64.wrap (wrap64 ((wrap64 ((wrap64 (a1 + bt107.2)) + (wrap64 ((Go.bits .and .i64 (wrap64 (((bt107.1 : Nat) : Int) / 4503599627370496)) 2047) - 1023)))) + 1023))) * 4503599627370496)) : Int).toNat)).isSome = true then (some ((Go.floatBits .mul .f64 4607182418800017408 ((Go.bits .or .u64 (Go.bits .andNot .u64 ((bt107.1 : Nat) : Int) 9218868437227405312) (IntKind.u64.wrap ((IntKind.u64.wrap (wrap64 ((wrap64 ((wrap64 (a1 + bt107.2)) + (wrap64 ((Go.bits .and .i64 (wrap64 (((bt107.1 : Nat) : Int) / 4503599627370496)) 2047) - 1023)))) + 1023))) * 4503599627370496)) : Int).toNat)).getD 0)) else (none))))))) = some r := H
      have A6 := Aside0.mk A60
      clear A60
      by_cases c7 : t106 = true
      · subst c7
        have H1 : (some a0) = some r := by rw [if_pos rfl] at H; exact H
        clear H
        have H := H1
        clear H1
        obtain rfl := Option.some.inj H
        go_enter Try.func28, Try.ntmps28
        go_wp2_with (first | ((with_reducible refine gate_callee (f := 29) rfl ?_); refine goesL_ (some 14) rfl rfl Try.func29 (by kernel_rfl) rfl #[.float .f64 a0, .int .i64 0] rfl (by (try simp only [List.map_toArray, List.map_cons, List.map_nil]); first | done | rfl | (simp only [List.length_drop, List.length_take]; rfl)) ?_; (with_reducible refine (math_IsInf.calls a0 0 false _ A4.out).mono ?_); rintro e w' ⟨rfl, ⟨nd, rfl⟩⟩; refine ⟨_, rfl, ?_⟩) | (go_at_call 16; (with_reducible refine (math_IsNaN.calls a0 true _ A6.out).mono ?_); rintro e w' ⟨rfl, ⟨nd, rfl⟩⟩))
        go_ret
        exact ⟨by first | rfl | (simp; done) | (simp [*]; done), by repeat (first | exact Drawn0.refl _ | apply Drawn0.step)⟩
      · replace c7 := Bool.eq_false_iff.mpr c7
        subst c7
        have H1 : ((math_normalize.f a0).bind fun bt107 => (if (wrap64 ((wrap64 (a1 + bt107.2)) + (wrap64 ((Go.bits .and .i64 (wrap64 (((bt107.1 : Nat) : Int) / 4503599627370496)) 2047) - 1023)))) < (-1075) then ((math_Copysign.f 0 bt107.1).bind fun t109 => (some t109)) else (if (wrap64 ((wrap64 (a1 + bt107.2)) + (wrap64 ((Go.bits .and .i64 (wrap64 (((bt107.1 : Nat) : Int) / 4503599627370496)) 2047) - 1023)))) > 1023 then (if (Go.FloatKind.f64.format.order bt107.1 0 == some .lt) = true then ((math_Inf.f (-1)).bind fun t110 => (some t110)) else ((math_Inf.f 1).bind fun t111 => (some t111))) else (if (wrap64 ((wrap64 (a1 + bt107.2)) + (wrap64 ((Go.bits .and .i64 (wrap64 (((bt107.1 : Nat) : Int) / 4503599627370496)) 2047) - 1023)))) < (-1022) then (if (Go.floatBits .mul .f64 4368491638549381120 ((Go.bits .or .u64 (Go.bits .andNot .u64 ((bt107.1 : Nat) : Int) 9218868437227405312) (IntKind.u64.wrap ((IntKind.u64.wrap (wrap64 ((wrap64 ((wrap64 ((wrap64 (a1 + bt107.2)) + (wrap64 ((Go.bits .and .i64 (wrap64 (((bt107.1 : Nat) : Int) / 4503599627370496)) 2047) - 1023)))) + 53)) + 1023))) * 4503599627370496)) : Int).toNat)).isSome = true then (some ((Go.floatBits .mul .f64 4368491638549381120 ((Go.bits .or .u64 (Go.bits .andNot .u64 ((bt107.1 : Nat) : Int) 9218868437227405312) (IntKind.u64.wrap ((IntKind.u64.wrap (wrap64 ((wrap64 ((wrap64 ((wrap64 (a1 + bt107.2)) + (wrap64 ((Go.bits .and .i64 (wrap64 (((bt107.1 : Nat) : Int) / 4503599627370496)) 2047) - 1023)))) + 53)) + 1023))) * 4503599627370496)) : Int).toNat)).getD 0)) else (none)) else (if (Go.floatBits .mul .f64 4607182418800017408 ((Go.bits .or .u64 (Go.bits .andNot .u64 ((bt107.1 : Nat) : Int) 9218868437227405312) (IntKind.u64.wrap ((IntKind.u64.wrap (wrap64 ((wrap64 ((wrap64 (a1 + bt107.2)) + (wrap64 ((Go.bits .and .i64 (wrap64 (((bt107.1 : Nat) : Int) / 4503599627370496)) 2047) - 1023)))) + 1023))) * 4503599627370496)) : Int).toNat)).isSome = true then (some ((Go.floatBits .mul .f64 4607182418800017408 ((Go.bits .or .u64 (Go.bits .andNot .u64 ((bt107.1 : Nat) : Int) 9218868437227405312) (IntKind.u64.wrap ((IntKind.u64.wrap (wrap64 ((wrap64 ((wrap64 (a1 + bt107.2)) + (wrap64 ((Go.bits .and .i64 (wrap64 (((bt107.1 : Nat) : Int) / 4503599627370496)) 2047) - 1023)))) + 1023))) * 4503599627370496)) : Int).toNat)).getD 0)) else (none)))))) = some r := by rw [if_neg (show ¬ (false = true) by decide)] at H; exact H
        clear H
        have H := H1
        clear H1
        replace H := Option.bind_eq_some_iff.mp H
        obtain ⟨⟨t107, t108⟩, A80, H⟩ := H
        replace H : (if (wrap64 ((wrap64 (a1 + t108)) + (wrap64 ((Go.bits .and .i64 (wrap64 (((t107 : Nat) : Int) / 4503599627370496)) 2047) - 1023)))) < (-1075) then ((math_Copysign.f 0 t107).bind fun t109 => (some t109)) else (if (wrap64 ((wrap64 (a1 + t108)) + (wrap64 ((Go.bits .and .i64 (wrap64 (((t107 : Nat) : Int) / 4503599627370496)) 2047) - 1023)))) > 1023 then (if (Go.FloatKind.f64.format.order t107 0 == some .lt) = true then ((math_Inf.f (-1)).bind fun t110 => (some t110)) else ((math_Inf.f 1).bind fun t111 => (some t111))) else (if (wrap64 ((wrap64 (a1 + t108)) + (wrap64 ((Go.bits .and .i64 (wrap64 (((t107 : Nat) : Int) / 4503599627370496)) 2047) - 1023)))) < (-1022) then (if (Go.floatBits .mul .f64 4368491638549381120 ((Go.bits .or .u64 (Go.bits .andNot .u64 ((t107 : Nat) : Int) 9218868437227405312) (IntKind.u64.wrap ((IntKind.u64.wrap (wrap64 ((wrap64 ((wrap64 ((wrap64 (a1 + t108)) + (wrap64 ((Go.bits .and .i64 (wrap64 (((t107 : Nat) : Int) / 4503599627370496)) 2047) - 1023)))) + 53)) + 1023))) * 4503599627370496)) : Int).toNat)).isSome = true then (some ((Go.floatBits .mul .f64 4368491638549381120 ((Go.bits .or .u64 (Go.bits .andNot .u64 ((t107 : Nat) : Int) 9218868437227405312) (IntKind.u64.wrap ((IntKind.u64.wrap (wrap64 ((wrap64 ((wrap64 ((wrap64 (a1 + t108)) + (wrap64 ((Go.bits .and .i64 (wrap64 (((t107 : Nat) : Int) / 4503599627370496)) 2047) - 1023)))) + 53)) + 1023))) * 4503599627370496)) : Int).toNat)).getD 0)) else (none)) else (if (Go.floatBits .mul .f64 4607182418800017408 ((Go.bits .or .u64 (Go.bits .andNot .u64 ((t107 : Nat) : Int) 9218868437227405312) (IntKind.u64.wrap ((IntKind.u64.wrap (wrap64 ((wrap64 ((wrap64 (a1 + t108)) + (wrap64 ((Go.bits .and .i64 (wrap64 (((t107 : Nat) : Int) / 4503599627370496)) 2047) - 1023)))) + 1023))) * 4503599627370496)) : Int).toNat)).isSome = true then (some ((Go.floatBits .mul .f64 4607182418800017408 ((Go.bits .or .u64 (Go.bits .andNot .u64 ((t107 : Nat) : Int) 9218868437227405312) (IntKind.u64.wrap ((IntKind.u64.wrap (wrap64 ((wrap64 ((wrap64 (a1 + t108)) + (wrap64 ((Go.bits .and .i64 (wrap64 (((t107 : Nat) : Int) / 4503599627370496)) 2047) - 1023)))) + 1023))) * 4503599627370496)) : Int).toNat)).getD 0)) else (none))))) = some r := H
        have A8 := Aside0.mk A80
        clear A80
        by_cases c9 : (wrap64 ((wrap64 (a1 + t108)) + (wrap64 ((Go.bits .and .i64 (wrap64 (((t107 : Nat) : Int) / 4503599627370496)) 2047) - 1023)))) < (-1075)
        · rw [if_pos c9] at H
          have c9b0 : decide ((wrap64 ((wrap64 (a1 + t108)) + (wrap64 ((Go.bits .and .i64 (wrap64 (((t107 : Nat) : Int) / 4503599627370496)) 2047) - 1023)))) < (-1075)) = true := decide_eq_true c9
          clear c9
          replace H := Option.bind_eq_some_iff.mp H
          obtain ⟨t109, A100, H⟩ := H
          replace H : (some t109) = some r := H
          have A10 := Aside0.mk A100
          clear A100
          obtain rfl := Option.some.inj H
          go_enter Try.func28, Try.ntmps28
          go_wp2_with (first | ((with_reducible refine gate_callee (f := 29) rfl ?_); refine goesL_ (some 14) rfl rfl Try.func29 (by kernel_rfl) rfl #[.float .f64 a0, .int .i64 0] rfl (by (try simp only [List.map_toArray, List.map_cons, List.map_nil]); first | done | rfl | (simp only [List.length_drop, List.length_take]; rfl)) ?_; (with_reducible refine (math_IsInf.calls a0 0 false _ A4.out).mono ?_); rintro e w' ⟨rfl, ⟨nd, rfl⟩⟩; refine ⟨_, rfl, ?_⟩) | (go_at_call 16; (with_reducible refine (math_IsNaN.calls a0 false _ A6.out).mono ?_); rintro e w' ⟨rfl, ⟨nd, rfl⟩⟩) | ((with_reducible refine gate_callee (f := 30) rfl ?_); refine goesL_ (some 22) rfl rfl Try.func30 (by kernel_rfl) rfl #[.float .f64 a0] rfl (by (try simp only [List.map_toArray, List.map_cons, List.map_nil]); first | done | rfl | (simp only [List.length_drop, List.length_take]; rfl)) ?_; (with_reducible refine (math_normalize.calls a0 t107 t108 _ A8.out).mono ?_); rintro e w' ⟨rfl, ⟨nd, rfl⟩⟩; refine ⟨_, rfl, ?_⟩) | ((with_reducible refine gate_callee (f := 7) rfl ?_); refine goesL_ (some 40) rfl rfl Try.func7 (by kernel_rfl) rfl #[.float .f64 0, .float .f64 t107] rfl (by (try simp only [List.map_toArray, List.map_cons, List.map_nil]); first | done | rfl | (simp only [List.length_drop, List.length_take]; rfl)) ?_; (with_reducible refine (math_Copysign.calls 0 t107 t109 _ A10.out).mono ?_); rintro e w' ⟨rfl, ⟨nd, rfl⟩⟩; refine ⟨_, rfl, ?_⟩))
          go_ret
          exact ⟨by first | rfl | (simp; done) | (simp [*]; done), by repeat (first | exact Drawn0.refl _ | apply Drawn0.step)⟩
        · rw [if_neg c9] at H
          have c9b0 : decide ((wrap64 ((wrap64 (a1 + t108)) + (wrap64 ((Go.bits .and .i64 (wrap64 (((t107 : Nat) : Int) / 4503599627370496)) 2047) - 1023)))) < (-1075)) = false := decide_eq_false c9
          clear c9
          by_cases c11 : (wrap64 ((wrap64 (a1 + t108)) + (wrap64 ((Go.bits .and .i64 (wrap64 (((t107 : Nat) : Int) / 4503599627370496)) 2047) - 1023)))) > 1023
          · rw [if_pos c11] at H
            have c11b0 : decide (1023 < (wrap64 ((wrap64 (a1 + t108)) + (wrap64 ((Go.bits .and .i64 (wrap64 (((t107 : Nat) : Int) / 4503599627370496)) 2047) - 1023))))) = true := decide_eq_true c11
            clear c11
            by_cases c12 : (Go.FloatKind.f64.format.order t107 0 == some .lt) = true
            · rw [if_pos c12] at H
              have c12b0 : (Go.FloatKind.f64.format.order t107 0 == some .lt) = true := c12
              (try (have c12b1 : decide (Go.FloatKind.f64.format.order t107 0 = some .lt) = true := by simpa using c12))
              (try (have c12b2 : (Go.FloatKind.f64.format.order t107 0 == some .lt) = true := by simpa using c12))
              clear c12
              replace H := Option.bind_eq_some_iff.mp H
              obtain ⟨t110, A130, H⟩ := H
              replace H : (some t110) = some r := H
              have A13 := Aside0.mk A130
              clear A130
              obtain rfl := Option.some.inj H
              go_enter Try.func28, Try.ntmps28
              go_wp2_with (first | ((with_reducible refine gate_callee (f := 29) rfl ?_); refine goesL_ (some 14) rfl rfl Try.func29 (by kernel_rfl) rfl #[.float .f64 a0, .int .i64 0] rfl (by (try simp only [List.map_toArray, List.map_cons, List.map_nil]); first | done | rfl | (simp only [List.length_drop, List.length_take]; rfl)) ?_; (with_reducible refine (math_IsInf.calls a0 0 false _ A4.out).mono ?_); rintro e w' ⟨rfl, ⟨nd, rfl⟩⟩; refine ⟨_, rfl, ?_⟩) | (go_at_call 16; (with_reducible refine (math_IsNaN.calls a0 false _ A6.out).mono ?_); rintro e w' ⟨rfl, ⟨nd, rfl⟩⟩) | ((with_reducible refine gate_callee (f := 30) rfl ?_); refine goesL_ (some 22) rfl rfl Try.func30 (by kernel_rfl) rfl #[.float .f64 a0] rfl (by (try simp only [List.map_toArray, List.map_cons, List.map_nil]); first | done | rfl | (simp only [List.length_drop, List.length_take]; rfl)) ?_; (with_reducible refine (math_normalize.calls a0 t107 t108 _ A8.out).mono ?_); rintro e w' ⟨rfl, ⟨nd, rfl⟩⟩; refine ⟨_, rfl, ?_⟩) | ((with_reducible refine gate_callee (f := 31) rfl ?_); refine goesL_ (some 45) rfl rfl Try.func31 (by kernel_rfl) rfl #[.int .i64 (-1)] rfl (by (try simp only [List.map_toArray, List.map_cons, List.map_nil]); first | done | rfl | (simp only [List.length_drop, List.length_take]; rfl)) ?_; (with_reducible refine (math_Inf.calls (-1) t110 _ A13.out).mono ?_); rintro e w' ⟨rfl, ⟨nd, rfl⟩⟩; refine ⟨_, rfl, ?_⟩))
              go_ret
              exact ⟨by first | rfl | (simp; done) | (simp [*]; done), by repeat (first | exact Drawn0.refl _ | apply Drawn0.step)⟩
            · rw [if_neg c12] at H
              have c12b0 : (Go.FloatKind.f64.format.order t107 0 == some .lt) = false := by simpa using c12
              (try (have c12b1 : decide (Go.FloatKind.f64.format.order t107 0 = some .lt) = false := by simpa using c12))
              (try (have c12b2 : (Go.FloatKind.f64.format.order t107 0 == some .lt) = false := by simpa using c12))
              (try (have c12b3 : ¬ (Go.FloatKind.f64.format.order t107 0 = some .lt) := by simpa using c12))
              clear c12
              replace H := Option.bind_eq_some_iff.mp H
              obtain ⟨t111, A140, H⟩ := H
              replace H : (some t111) = some r := H
              have A14 := Aside0.mk A140
              clear A140
              obtain rfl := Option.some.inj H
              go_enter Try.func28, Try.ntmps28
              go_wp2_with (first | ((with_reducible refine gate_callee (f := 29) rfl ?_); refine goesL_ (some 14) rfl rfl Try.func29 (by kernel_rfl) rfl #[.float .f64 a0, .int .i64 0] rfl (by (try simp only [List.map_toArray, List.map_cons, List.map_nil]); first | done | rfl | (simp only [List.length_drop, List.length_take]; rfl)) ?_; (with_reducible refine (math_IsInf.calls a0 0 false _ A4.out).mono ?_); rintro e w' ⟨rfl, ⟨nd, rfl⟩⟩; refine ⟨_, rfl, ?_⟩) | (go_at_call 16; (with_reducible refine (math_IsNaN.calls a0 false _ A6.out).mono ?_); rintro e w' ⟨rfl, ⟨nd, rfl⟩⟩) | ((with_reducible refine gate_callee (f := 30) rfl ?_); refine goesL_ (some 22) rfl rfl Try.func30 (by kernel_rfl) rfl #[.float .f64 a0] rfl (by (try simp only [List.map_toArray, List.map_cons, List.map_nil]); first | done | rfl | (simp only [List.length_drop, List.length_take]; rfl)) ?_; (with_reducible refine (math_normalize.calls a0 t107 t108 _ A8.out).mono ?_); rintro e w' ⟨rfl, ⟨nd, rfl⟩⟩; refine ⟨_, rfl, ?_⟩) | ((with_reducible refine gate_callee (f := 31) rfl ?_); refine goesL_ (some 46) rfl rfl Try.func31 (by kernel_rfl) rfl #[.int .i64 1] rfl (by (try simp only [List.map_toArray, List.map_cons, List.map_nil]); first | done | rfl | (simp only [List.length_drop, List.length_take]; rfl)) ?_; (with_reducible refine (math_Inf.calls 1 t111 _ A14.out).mono ?_); rintro e w' ⟨rfl, ⟨nd, rfl⟩⟩; refine ⟨_, rfl, ?_⟩))
              go_ret
              exact ⟨by first | rfl | (simp; done) | (simp [*]; done), by repeat (first | exact Drawn0.refl _ | apply Drawn0.step)⟩
          · rw [if_neg c11] at H
            have c11b0 : decide (1023 < (wrap64 ((wrap64 (a1 + t108)) + (wrap64 ((Go.bits .and .i64 (wrap64 (((t107 : Nat) : Int) / 4503599627370496)) 2047) - 1023))))) = false := decide_eq_false c11
            clear c11
            by_cases c15 : (wrap64 ((wrap64 (a1 + t108)) + (wrap64 ((Go.bits .and .i64 (wrap64 (((t107 : Nat) : Int) / 4503599627370496)) 2047) - 1023)))) < (-1022)
            · rw [if_pos c15] at H
              have c15b0 : decide ((wrap64 ((wrap64 (a1 + t108)) + (wrap64 ((Go.bits .and .i64 (wrap64 (((t107 : Nat) : Int) / 4503599627370496)) 2047) - 1023)))) < (-1022)) = true := decide_eq_true c15
              clear c15
              by_cases c16 : (Go.floatBits .mul .f64 4368491638549381120 ((Go.bits .or .u64 (Go.bits .andNot .u64 ((t107 : Nat) : Int) 9218868437227405312) (IntKind.u64.wrap ((IntKind.u64.wrap (wrap64 ((wrap64 ((wrap64 ((wrap64 (a1 + t108)) + (wrap64 ((Go.bits .and .i64 (wrap64 (((t107 : Nat) : Int) / 4503599627370496)) 2047) - 1023)))) + 53)) + 1023))) * 4503599627370496)) : Int).toNat)).isSome = true
              · rw [if_pos c16] at H
                have c16b0 := eq_true c16
                have c16b1 : decide ((Go.floatBits .mul .f64 4368491638549381120 ((Go.bits .or .u64 (Go.bits .andNot .u64 ((t107 : Nat) : Int) 9218868437227405312) (IntKind.u64.wrap ((IntKind.u64.wrap (wrap64 ((wrap64 ((wrap64 ((wrap64 (a1 + t108)) + (wrap64 ((Go.bits .and .i64 (wrap64 (((t107 : Nat) : Int) / 4503599627370496)) 2047) - 1023)))) + 53)) + 1023))) * 4503599627370496)) : Int).toNat)).isSome = true) = true := decide_eq_true c16
                obtain rfl := Option.some.inj H
                go_enter Try.func28, Try.ntmps28
                go_wp2_with (first | ((with_reducible refine gate_callee (f := 29) rfl ?_); refine goesL_ (some 14) rfl rfl Try.func29 (by kernel_rfl) rfl #[.float .f64 a0, .int .i64 0] rfl (by (try simp only [List.map_toArray, List.map_cons, List.map_nil]); first | done | rfl | (simp only [List.length_drop, List.length_take]; rfl)) ?_; (with_reducible refine (math_IsInf.calls a0 0 false _ A4.out).mono ?_); rintro e w' ⟨rfl, ⟨nd, rfl⟩⟩; refine ⟨_, rfl, ?_⟩) | (go_at_call 16; (with_reducible refine (math_IsNaN.calls a0 false _ A6.out).mono ?_); rintro e w' ⟨rfl, ⟨nd, rfl⟩⟩) | ((with_reducible refine gate_callee (f := 30) rfl ?_); refine goesL_ (some 22) rfl rfl Try.func30 (by kernel_rfl) rfl #[.float .f64 a0] rfl (by (try simp only [List.map_toArray, List.map_cons, List.map_nil]); first | done | rfl | (simp only [List.length_drop, List.length_take]; rfl)) ?_; (with_reducible refine (math_normalize.calls a0 t107 t108 _ A8.out).mono ?_); rintro e w' ⟨rfl, ⟨nd, rfl⟩⟩; refine ⟨_, rfl, ?_⟩))
                go_ret
                exact ⟨by first | rfl | (simp; done) | (simp [*]; done), by repeat (first | exact Drawn0.refl _ | apply Drawn0.step)⟩
              · rw [if_neg c16] at H
                exact absurd H (by simp)
            · rw [if_neg c15] at H
              have c15b0 : decide ((wrap64 ((wrap64 (a1 + t108)) + (wrap64 ((Go.bits .and .i64 (wrap64 (((t107 : Nat) : Int) / 4503599627370496)) 2047) - 1023)))) < (-1022)) = false := decide_eq_false c15
              clear c15
              by_cases c17 : (Go.floatBits .mul .f64 4607182418800017408 ((Go.bits .or .u64 (Go.bits .andNot .u64 ((t107 : Nat) : Int) 9218868437227405312) (IntKind.u64.wrap ((IntKind.u64.wrap (wrap64 ((wrap64 ((wrap64 (a1 + t108)) + (wrap64 ((Go.bits .and .i64 (wrap64 (((t107 : Nat) : Int) / 4503599627370496)) 2047) - 1023)))) + 1023))) * 4503599627370496)) : Int).toNat)).isSome = true
              · rw [if_pos c17] at H
                have c17b0 := eq_true c17
                have c17b1 : decide ((Go.floatBits .mul .f64 4607182418800017408 ((Go.bits .or .u64 (Go.bits .andNot .u64 ((t107 : Nat) : Int) 9218868437227405312) (IntKind.u64.wrap ((IntKind.u64.wrap (wrap64 ((wrap64 ((wrap64 (a1 + t108)) + (wrap64 ((Go.bits .and .i64 (wrap64 (((t107 : Nat) : Int) / 4503599627370496)) 2047) - 1023)))) + 1023))) * 4503599627370496)) : Int).toNat)).isSome = true) = true := decide_eq_true c17
                obtain rfl := Option.some.inj H
                go_enter Try.func28, Try.ntmps28
                go_wp2_with (first | ((with_reducible refine gate_callee (f := 29) rfl ?_); refine goesL_ (some 14) rfl rfl Try.func29 (by kernel_rfl) rfl #[.float .f64 a0, .int .i64 0] rfl (by (try simp only [List.map_toArray, List.map_cons, List.map_nil]); first | done | rfl | (simp only [List.length_drop, List.length_take]; rfl)) ?_; (with_reducible refine (math_IsInf.calls a0 0 false _ A4.out).mono ?_); rintro e w' ⟨rfl, ⟨nd, rfl⟩⟩; refine ⟨_, rfl, ?_⟩) | (go_at_call 16; (with_reducible refine (math_IsNaN.calls a0 false _ A6.out).mono ?_); rintro e w' ⟨rfl, ⟨nd, rfl⟩⟩) | ((with_reducible refine gate_callee (f := 30) rfl ?_); refine goesL_ (some 22) rfl rfl Try.func30 (by kernel_rfl) rfl #[.float .f64 a0] rfl (by (try simp only [List.map_toArray, List.map_cons, List.map_nil]); first | done | rfl | (simp only [List.length_drop, List.length_take]; rfl)) ?_; (with_reducible refine (math_normalize.calls a0 t107 t108 _ A8.out).mono ?_); rintro e w' ⟨rfl, ⟨nd, rfl⟩⟩; refine ⟨_, rfl, ?_⟩))
                go_ret
                exact ⟨by first | rfl | (simp; done) | (simp [*]; done), by repeat (first | exact Drawn0.refl _ | apply Drawn0.step)⟩
              · rw [if_neg c17] at H
                exact absurd H (by simp)

/-! ### math_Ldexp: function 26 -/
def math_Ldexp.f (a0 : Nat) (a1 : Int) : Option (Nat) := (math_ldexp.f a0 a1).bind fun t112 => (some t112)
set_option maxHeartbeats 8000000 in
set_option maxRecDepth 100000 in
theorem math_Ldexp.calls (a0 : Nat) (a1 : Int) (r : Nat) (w : World) (h : math_Ldexp.f a0 a1 = some r) :
    Calls Try.prog 26 #[.float .f64 a0, .int .i64 a1] w fun e w' => e = .returned (.float .f64 r) ∧ Drawn0 w w' := by
  have H : ((math_ldexp.f a0 a1).bind fun t112 => (some t112)) = some r := h
  clear h
  replace H := Option.bind_eq_some_iff.mp H
  obtain ⟨t112, A30, H⟩ := H
  replace H : (some t112) = some r := H
  have A3 := Aside0.mk A30
  clear A30
  obtain rfl := Option.some.inj H
  go_enter Try.func26, Try.ntmps26
  go_wp2_with (first | ((with_reducible refine gate_callee (f := 28) rfl ?_); refine goesL_ (some 10) rfl rfl Try.func28 (by kernel_rfl) rfl #[.float .f64 a0, .int .i64 a1] rfl (by (try simp only [List.map_toArray, List.map_cons, List.map_nil]); first | done | rfl | (simp only [List.length_drop, List.length_take]; rfl)) ?_; (with_reducible refine (math_ldexp.calls a0 a1 t112 _ A3.out).mono ?_); rintro e w' ⟨rfl, ⟨nd, rfl⟩⟩; refine ⟨_, rfl, ?_⟩))
  go_ret
  exact ⟨by first | rfl | (simp; done) | (simp [*]; done), by repeat (first | exact Drawn0.refl _ | apply Drawn0.step)⟩

end Go.Proofs.Ytdkhaibibpekoaa.Q
