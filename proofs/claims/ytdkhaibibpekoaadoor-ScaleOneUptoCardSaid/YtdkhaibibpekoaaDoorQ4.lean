-- PRINTED by print.py (a twelfth state) out of the translation. Not trusted: Lean checks it.
import Derived.Test.YtdkhaibibpekoaaDoorQ0
import Derived.Test.YtdkhaibibpekoaaDoorQ1
namespace Go.Proofs.YtdkhaibibpekoaaDoor.Q
open Go.RowKit Go.Proofs.YtdkhaibibpekoaaDoorW.PrintWords Go.Proofs.YtdkhaibibpekoaaDoorW.PrintLast Go.Proofs.YtdkhaibibpekoaaDoorW.PrintMore
attribute [local go_sem] max2_int min2_int max_two min_two max_three min_three max_four min_four   -- for this text's walks alone
set_option linter.unusedVariables false
set_option linter.unusedSimpArgs false

/-! ### math_archLdexp: function 25 -/
def math_archLdexp.f (a0 : Nat) (a1 : Int) : Option (Nat) := none
set_option maxHeartbeats 8000000 in
set_option maxRecDepth 100000 in
theorem math_archLdexp.calls (a0 : Nat) (a1 : Int) (r : Nat) (w : World) (h : math_archLdexp.f a0 a1 = some r) :
    Calls Tryd.prog 25 #[.float .f64 a0, .int .i64 a1] w fun e w' => e = .returned (.float .f64 r) ∧ Drawn0 w w' := by
  have H : (none) = some r := h
  clear h
  exact absurd H (by simp)

/-! ### math_Copysign: function 36 -/
def math_Copysign.f (a0 : Nat) (a1 : Nat) : Option (Nat) := some ((Go.bits .or .u64 (Go.bits .andNot .u64 ((a0 : Nat) : Int) 9223372036854775808) (Go.bits .and .u64 ((a1 : Nat) : Int) 9223372036854775808) : Int).toNat)
set_option maxHeartbeats 8000000 in
set_option maxRecDepth 100000 in
theorem math_Copysign.calls (a0 : Nat) (a1 : Nat) (r : Nat) (w : World) (h : math_Copysign.f a0 a1 = some r) :
    Calls Tryd.prog 36 #[.float .f64 a0, .float .f64 a1] w fun e w' => e = .returned (.float .f64 r) ∧ Drawn0 w w' := by
  have hx15 := @fbits_law
  have hx20 := @ffrom_law
  have H : (some ((Go.bits .or .u64 (Go.bits .andNot .u64 ((a0 : Nat) : Int) 9223372036854775808) (Go.bits .and .u64 ((a1 : Nat) : Int) 9223372036854775808) : Int).toNat)) = some r := h
  clear h
  obtain rfl := Option.some.inj H
  go_enter Tryd.func36, Tryd.ntmps36
  go_wp2
  go_ret
  exact ⟨by first | rfl | (simp; done) | (simp [*]; done), by repeat (first | exact Drawn0.refl _ | apply Drawn0.step)⟩

/-! ### math_Inf: function 37 -/
def math_Inf.f (a0 : Int) : Option (Nat) := if a0 ≥ 0 then (some ((9218868437227405312 : Int).toNat)) else (some ((18442240474082181120 : Int).toNat))
set_option maxHeartbeats 8000000 in
set_option maxRecDepth 100000 in
theorem math_Inf.calls (a0 : Int) (r : Nat) (w : World) (h : math_Inf.f a0 = some r) :
    Calls Tryd.prog 37 #[.int .i64 a0] w fun e w' => e = .returned (.float .f64 r) ∧ Drawn0 w w' := by
  have hx20 := @ffrom_law
  have H : (if a0 ≥ 0 then (some ((9218868437227405312 : Int).toNat)) else (some ((18442240474082181120 : Int).toNat))) = some r := h
  clear h
  by_cases c2 : a0 ≥ 0
  · rw [if_pos c2] at H
    have c2b0 : decide (0 ≤ a0) = true := decide_eq_true c2
    clear c2
    obtain rfl := Option.some.inj H
    go_enter Tryd.func37, Tryd.ntmps37
    go_wp2
    go_ret
    exact ⟨by first | rfl | (simp; done) | (simp [*]; done), by repeat (first | exact Drawn0.refl _ | apply Drawn0.step)⟩
  · rw [if_neg c2] at H
    have c2b0 : decide (0 ≤ a0) = false := decide_eq_false c2
    clear c2
    obtain rfl := Option.some.inj H
    go_enter Tryd.func37, Tryd.ntmps37
    go_wp2
    go_ret
    exact ⟨by first | rfl | (simp; done) | (simp [*]; done), by repeat (first | exact Drawn0.refl _ | apply Drawn0.step)⟩

/-! ### math_ldexp: function 26 -/
def math_ldexp.f (a0 : Nat) (a1 : Int) : Option (Nat) := if (Go.FloatKind.f64.format.order a0 0 == some .eq) = true then (some a0) else ((math_IsInf.f a0 0).bind fun t136 => (if t136 = true then (some a0) else ((math_IsNaN.f a0).bind fun t137 => (if t137 = true then (some a0) else ((math_normalize.f a0).bind fun bt138 => (if (wrap64 ((wrap64 (a1 + bt138.2)) + (wrap64 ((Go.bits .and .i64 (wrap64 (((bt138.1 : Nat) : Int) / 4503599627370496)) 2047) - 1023)))) < (-1075) then ((math_Copysign.f 0 bt138.1).bind fun t140 => (some t140)) else (if (wrap64 ((wrap64 (a1 + bt138.2)) + (wrap64 ((Go.bits .and .i64 (wrap64 (((bt138.1 : Nat) : Int) / 4503599627370496)) 2047) - 1023)))) > 1023 then (if (Go.FloatKind.f64.format.order bt138.1 0 == some .lt) = true then ((math_Inf.f (-1)).bind fun t141 => (some t141)) else ((math_Inf.f 1).bind fun t142 => (some t142))) else (if (wrap64 ((wrap64 (a1 + bt138.2)) + (wrap64 ((Go.bits .and .i64 (wrap64 (((bt138.1 : Nat) : Int) / 4503599627370496)) 2047) - 1023)))) < (-1022) then (if (Go.floatBits .mul .f64 4368491638549381120 ((Go.bits .or .u64 (Go.bits .andNot .u64 ((bt138.1 : Nat) : Int) 9218868437227405312) (IntKind.u64.wrap ((IntKind.u64.wrap (wrap64 ((wrap64 ((wrap64 ((wrap64 (a1 + bt138.2)) + (wrap64 ((Go.bits .and .i64 (wrap64 (((bt138.1 : Nat) : Int) / 4503599627370496)) 2047) - 1023)))) + 53)) + 1023))) * 4503599627370496)) : Int).toNat)).isSome = true then (some ((Go.floatBits .mul .f64 4368491638549381120 ((Go.bits .or .u64 (Go.bits .andNot .u64 ((bt138.1 : Nat) : Int) 9218868437227405312) (IntKind.u64.wrap ((IntKind.u64.wrap (wrap64 ((wrap64 ((wrap64 ((wrap64 (a1 + bt138.2)) + (wrap64 ((Go.bits .and .i64 (wrap64 (((bt138.1 : Nat) : Int) / 4503599627370496)) 2047) - 1023)))) + 53)) + 1023))) * 4503599627370496)) : Int).toNat)).getD 0)) else (none)) else (if (Go.floatBits .mul .f64 4607182418800017408 ((Go.bits .or .u64 (Go.bits .andNot .u64 ((bt138.1 : Nat) : Int) 9218868437227405312) (IntKind.u64.wrap ((IntKind.u64.wrap (wrap64 ((wrap64 ((wrap64 (a1 + bt138.2)) + (wrap64 ((Go.bits .and .i64 (wrap64 (((bt138.1 : Nat) : Int) / 4503599627370496)) 2047) - 1023)))) + 1023))) * 4503599627370496)) : Int).toNat)).isSome = true then (some ((Go.floatBits .mul .f64 4607182418800017408 ((Go.bits .or .u64 (Go.bits .andNot .u64 ((bt138.1 : Nat) : Int) 9218868437227405312) (IntKind.u64.wrap ((IntKind.u64.wrap (wrap64 ((wrap64 ((wrap64 (a1 + bt138.2)) + (wrap64 ((Go.bits .and .i64 (wrap64 (((bt138.1 : Nat) : Int) / 4503599627370496)) 2047) - 1023)))) + 1023))) * 4503599627370496)) : Int).toNat)).getD 0)) else (none))))))))))
set_option maxHeartbeats 8000000 in
set_option maxRecDepth 100000 in
theorem math_ldexp.calls (a0 : Nat) (a1 : Int) (r : Nat) (w : World) (h : math_ldexp.f a0 a1 = some r) :
    Calls Tryd.prog 26 #[.float .f64 a0, .int .i64 a1] w fun e w' => e = .returned (.float .f64 r) ∧ Drawn0 w w' := by
  have hxmul := @fmul_law Tryd.prog
  have hx15 := @fbits_law
  have hx20 := @ffrom_law
  have H : (if (Go.FloatKind.f64.format.order a0 0 == some .eq) = true then (some a0) else ((math_IsInf.f a0 0).bind fun t136 => (if t136 = true then (some a0) else ((math_IsNaN.f a0).bind fun t137 => (if t137 = true then (some a0) else ((math_normalize.f a0).bind fun bt138 => (if (wrap64 ((wrap64 (a1 + bt138.2)) + (wrap64 ((Go.bits .and .i64 (wrap64 (((bt138.1 : Nat) : Int) / 4503599627370496)) 2047) - 1023)))) < (-1075) then ((math_Copysign.f 0 bt138.1).bind fun t140 => (some t140)) else (if (wrap64 ((wrap64 (a1 + bt138.2)) + (wrap64 ((Go.bits .and .i64 (wrap64 (((bt138.1 : Nat) : Int) / 4503599627370496)) 2047) - 1023)))) > 1023 then (if (Go.FloatKind.f64.format.order bt138.1 0 == some .lt) = true then ((math_Inf.f (-1)).bind fun t141 => (some t141)) else ((math_Inf.f 1).bind fun t142 => (some t142))) else (if (wrap64 ((wrap64 (a1 + bt138.2)) + (wrap64 ((Go.bits .and .i64 (wrap64 (((bt138.1 : Nat) : Int) / 4503599627370496)) 2047) - 1023)))) < (-1022) then (if (Go.floatBits .mul .f64 4368491638549381120 ((Go.bits .or .u64 (Go.bits .andNot .u64 ((bt138.1 : Nat) : Int) 9218868437227405312) (IntKind.u64.wrap ((IntKind.u64.wrap (wrap64 ((wrap64 ((wrap64 ((wrap64 (a1 + bt138.2)) + (wrap64 ((Go.bits .and .i64 (wrap64 (((bt138.1 : Nat) : Int) / 4503599627370496)) 2047) - 1023)))) + 53)) + 1023))) * 4503599627370496)) : Int).toNat)).isSome = true then (some ((Go.floatBits .mul .f64 4368491638549381120 ((Go.bits .or .u64 (Go.bits .andNot .u64 ((bt138.1 : Nat) : Int) 9218868437227405312) (IntKind.u64.wrap ((IntKind.u64.wrap (wrap64 ((wrap64 ((wrap64 ((wrap64 (a1 + bt138.2)) + (wrap64 ((Go.bits .and .i64 (wrap64 (((bt138.1 : Nat) : Int) / 4503599627370496)) 2047) - 1023)))) + 53)) + 1023))) * 4503599627370496)) : Int).toNat)).getD 0)) else (none)) else (if (Go.floatBits .mul .f64 4607182418800017408 ((Go.bits .or .u64 (Go.bits .andNot .u64 ((bt138.1 : Nat) : Int) 9218868437227405312) (IntKind.u64.wrap ((IntKind.u64.wrap (wrap64 ((wrap64 ((wrap64 (a1 + bt138.2)) + (wrap64 ((Go.bits .and .i64 (wrap64 (((bt138.1 : Nat) : Int) / 4503599627370496)) 2047) - 1023)))) + 1023))) * 4503599627370496)) : Int).toNat)).isSome = true then (some ((Go.floatBits .mul .f64 4607182418800017408 ((Go.bits .or .u64 (Go.bits .andNot .u64 ((bt138.1 : Nat) : Int) 9218868437227405312) (IntKind.u64.wrap ((IntKind.u64.wrap (wrap64 ((wrap64 ((wrap64 (a1 + bt138.2)) + (wrap64 ((Go.bits .and .i64 (wrap64 (((bt138.1 : Nat) : Int) / 4503599627370496)) 2047) - 1023)))) + 1023))) * 4503599627370496)) : Int).toNat)).getD 0)) else (none))))))))))) = some r := h
  clear h
  by_cases c3 : (Go.FloatKind.f64.format.order a0 0 == some .eq) = true
  · rw [if_pos c3] at H
    have c3b0 : (Go.FloatKind.f64.format.order a0 0 == some .eq) = true := c3
    (try (have c3b1 : decide (Go.FloatKind.f64.format.order a0 0 = some .eq) = true := by simpa using c3))
    (try (have c3b2 : (Go.FloatKind.f64.format.order a0 0 == some .eq) = true := by simpa using c3))
    clear c3
    obtain rfl := Option.some.inj H
    go_enter Tryd.func26, Tryd.ntmps26
    go_wp2
    go_ret
    exact ⟨by first | rfl | (simp; done) | (simp [*]; done), by repeat (first | exact Drawn0.refl _ | apply Drawn0.step)⟩
  · rw [if_neg c3] at H
    have c3b0 : (Go.FloatKind.f64.format.order a0 0 == some .eq) = false := by simpa using c3
    (try (have c3b1 : decide (Go.FloatKind.f64.format.order a0 0 = some .eq) = false := by simpa using c3))
    (try (have c3b2 : (Go.FloatKind.f64.format.order a0 0 == some .eq) = false := by simpa using c3))
    (try (have c3b3 : ¬ (Go.FloatKind.f64.format.order a0 0 = some .eq) := by simpa using c3))
    clear c3
    replace H := Option.bind_eq_some_iff.mp H
    obtain ⟨t136, A40, H⟩ := H
    replace H : (if t136 = true then (some a0) else ((math_IsNaN.f a0).bind fun t137 => (if t137 = true then (some a0) else ((math_normalize.f a0).bind fun bt138 => (if (wrap64 ((wrap64 (a1 + bt138.2)) + (wrap64 ((Go.bits .and .i64 (wrap64 (((bt138.1 : Nat) : Int) / 4503599627370496)) 2047) - 1023)))) < (-1075) then ((math_Copysign.f 0 bt138.1).bind fun t140 => (some t140)) else (if (wrap64 ((wrap64 (a1 + bt138.2)) + (wrap64 ((Go.bits .and .i64 (wrap64 (((bt138.1 : Nat) : Int) / 4503599627370496)) 2047) - 1023)))) > 1023 then (if (Go.FloatKind.f64.format.order bt138.1 0 == some .lt) = true then ((math_Inf.f (-1)).bind fun t141 => (some t141)) else ((math_Inf.f 1).bind fun t142 => (some t142))) else (if (wrap64 ((wrap64 (a1 + bt138.2)) + (wrap64 ((Go.bits .and .i64 (wrap64 (((bt138.1 : Nat) : Int) / 4503599627370496)) 2047) - 1023)))) < (-1022) then (if (Go.floatBits .mul .f64 4368491638549381120 ((Go.bits .or .u64 (Go.bits .andNot .u64 ((bt138.1 : Nat) : Int) 9218868437227405312) (IntKind.u64.wrap ((IntKind.u64.wrap (wrap64 ((wrap64 ((wrap64 ((wrap64 (a1 + bt138.2)) + (wrap64 ((Go.bits .and .i64 (wrap64 (((bt138.1 : Nat) : Int) / 4503599627370496)) 2047) - 1023)))) + 53)) + 1023))) * 4503599627370496)) : Int).toNat)).isSome = true then (some ((Go.floatBits .mul .f64 4368491638549381120 ((Go.bits .or .u64 (Go.bits .andNot .u64 ((bt138.1 : Nat) : Int) 9218868437227405312) (IntKind.u64.wrap ((IntKind.u64.wrap (wrap64 ((wrap64 ((wrap64 ((wrap64 (a1 + bt138.2)) + (wrap64 ((Go.bits .and .i64 (wrap64 (((bt138.1 : Nat) : Int) / 4503599627370496)) 2047) - 1023)))) + 53)) + 1023))) * 4503599627370496)) : Int).toNat)).getD 0)) else (none)) else (if (Go.floatBits .mul .f64 4607182418800017408 ((Go.bits .or .u64 (Go.bits .andNot .u64 ((bt138.1 : Nat) : Int) 9218868437227405312) (IntKind.u64.wrap ((IntKind.u64.wrap (wrap64 ((wrap64 ((wrap64 (a1 + bt138.2)) + (wrap64 ((Go.bits .and .i64 (wrap64 (((bt138.1 : Nat) : Int) / 4503599627370496)) 2047) - 1023)))) + 1023))) * 4503599627370496)) : Int).toNat)).isSome = true then (some ((Go.floatBits .mul .f64 4607182418800017408 ((Go.bits .or .u64 (Go.bits .andNot .u64 ((bt138.1 : Nat) : Int) 9218868437227405312) (IntKind.u64.wrap ((IntKind.u64.wrap (wrap64 ((wrap64 ((wrap64 (a1 + bt138.2)) + (wrap64 ((Go.bits .and .i64 (wrap64 (((bt138.1 : Nat) : Int) / 4503599627370496)) 2047) - 1023)))) + 1023))) * 4503599627370496)) : Int).toNat)).getD 0)) else (none))))))))) = some r := H
    have A4 := Aside0.mk A40
    clear A40
    by_cases c5 : t136 = true
    · subst c5
      have H1 : (some a0) = some r := by rw [if_pos rfl] at H; exact H
      clear H
      have H := H1
      clear H1
      obtain rfl := Option.some.inj H
      go_enter Tryd.func26, Tryd.ntmps26
      go_wp2_with (first | ((with_reducible refine gate_callee (f := 18) rfl ?_); refine goesL_ (some 14) rfl rfl Tryd.func18 (by kernel_rfl) rfl #[.float .f64 a0, .int .i64 0] rfl (by (try simp only [List.map_toArray, List.map_cons, List.map_nil]); first | done | rfl | (simp only [List.length_drop, List.length_take]; rfl)) ?_; (with_reducible refine (math_IsInf.calls a0 0 true _ A4.out).mono ?_); rintro e w' ⟨rfl, ⟨nd, rfl⟩⟩; refine ⟨_, rfl, ?_⟩))
      go_ret
      exact ⟨by first | rfl | (simp; done) | (simp [*]; done), by repeat (first | exact Drawn0.refl _ | apply Drawn0.step)⟩
    · replace c5 := Bool.eq_false_iff.mpr c5
      subst c5
      have H1 : ((math_IsNaN.f a0).bind fun t137 => (if t137 = true then (some a0) else ((math_normalize.f a0).bind fun bt138 => (if (wrap64 ((wrap64 (a1 + bt138.2)) + (wrap64 ((Go.bits .and .i64 (wrap64 (((bt138.1 : Nat) : Int) / 4503599627370496)) 2047) - 1023)))) < (-1075) then ((math_Copysign.f 0 bt138.1).bind fun t140 => (some t140)) else (if (wrap64 ((wrap64 (a1 + bt138.2)) + (wrap64 ((Go.bits .and .i64 (wrap64 (((bt138.1 : Nat) : Int) / 4503599627370496)) 2047) - 1023)))) > 1023 then (if (Go.FloatKind.f64.format.order bt138.1 0 == some .lt) = true then ((math_Inf.f (-1)).bind fun t141 => (some t141)) else ((math_Inf.f 1).bind fun t142 => (some t142))) else (if (wrap64 ((wrap64 (a1 + bt138.2)) + (wrap64 ((Go.bits .and .i64 (wrap64 (((bt138.1 : Nat) : Int) / 4503599627370496)) 2047) - 1023)))) < (-1022) then (if (Go.floatBits .mul .f64 4368491638549381120 ((Go.bits .or .u64 (Go.bits .andNot .u64 ((bt138.1 : Nat) : Int) 9218868437227405312) (IntKind.u64.wrap ((IntKind.u64.wrap (wrap64 ((wrap64 ((wrap64 ((wrap64 (a1 + bt138.2)) + (wrap64 ((Go.bits .and .i64 (wrap64 (((bt138.1 : Nat) : Int) / 4503599627370496)) 2047) - 1023)))) + 53)) + 1023))) * 4503599627370496)) : Int).toNat)).isSome = true then (some ((Go.floatBits .mul .f64 4368491638549381120 ((Go.bits .or .u64 (Go.bits .andNot .u64 ((bt138.1 : Nat) : Int) 9218868437227405312) (IntKind.u64.wrap ((IntKind.u64.wrap (wrap64 ((wrap64 ((wrap64 ((wrap64 (a1 + bt138.2)) + (wrap64 ((Go.bits .and .i64 (wrap64 (((bt138.1 : Nat) : Int) / 4503599627370496)) 2047) - 1023)))) + 53)) + 1023))) * 4503599627370496)) : Int).toNat)).getD 0)) else (none)) else (if (Go.floatBits .mul .f64 4607182418800017408 ((Go.bits .or .u64 (Go.bits .andNot .u64 ((bt138.1 : Nat) : Int) 9218868437227405312) (IntKind.u64.wrap ((IntKind.u64.wrap (wrap64 ((wrap64 ((wrap64 (a1 + bt138.2)) + (wrap64 ((Go.bits .and .i64 (wrap64 (((bt138.1 : Nat) : Int) / 4503599627370496)) 2047) - 1023)))) + 1023))) * 4503599627370496)) : Int).toNat)).isSome = true then (some ((Go.floatBits .mul .f64 4607182418800017408 ((Go.bits .or .u64 (Go.bits .andNot .u64 ((bt138.1 : Nat) : Int) 9218868437227405312) (IntKind.u64.wrap ((IntKind.u64.wrap (wrap64 ((wrap64 ((wrap64 (a1 + bt138.2)) + (wrap64 ((Go.bits .and .i64 (wrap64 (((bt138.1 : Nat) : Int) / 4503599627370496)) 2047) - 1023)))) + 1023))) * 4503599627370496)) : Int).toNat)).getD 0)) else (none)))))))) = some r := by rw [if_neg (show ¬ (false = true) by decide)] at H; exact H
      clear H
      have H := H1
      clear H1
      replace H := Option.bind_eq_some_iff.mp H
      obtain ⟨t137, A60, H⟩ := H
      replace H : (if t137 = true then (some a0) else ((math_normalize.f a0).bind fun bt138 => (if (wrap64 ((wrap64 (a1 + bt138.2)) + (wrap64 ((Go.bits .and .i64 (wrap64 (((bt138.1 : Nat) : Int) / 4503599627370496)) 2047) - 1023)))) < (-1075) then ((math_Copysign.f 0 bt138.1).bind fun t140 => (some t140)) else (if (wrap64 ((wrap64 (a1 + bt138.2)) + (wrap64 ((Go.bits .and .i64 (wrap64 (((bt138.1 : Nat) : Int) / 4503599627370496)) 2047) - 1023)))) > 1023 then (if (Go.FloatKind.f64.format.order bt138.1 0 == some .lt) = true then ((math_Inf.f (-1)).bind fun t141 => (some t141)) else ((math_Inf.f 1).bind fun t142 => (some t142))) else (if (wrap64 ((wrap64 (a1 + bt138.2)) + (wrap64 ((Go.bits .and .i64 (wrap64 (((bt138.1 : Nat) : Int) / 4503599627370496)) 2047) - 1023)))) < (-1022) then (if (Go.floatBits .mul .f64 4368491638549381120 ((Go.bits .or .u64 (Go.bits .andNot .u64 ((bt138.1 : Nat) : Int) 9218868437227405312) (IntKind.u64.wrap ((IntKind.u64.wrap (wrap64 ((wrap64 ((wrap64 ((wrap64 (a1 + bt138.2)) + (wrap64 ((Go.bits .and .i64 (wrap64 (((bt138.1 : Nat) : Int) / 4503599627370496)) 2047) - 1023)))) + 53)) + 1023))) * 4503599627370496)) : Int).toNat)).isSome = true then (some ((Go.floatBits .mul .f64 4368491638549381120 ((Go.bits .or .u64 (Go.bits .andNot .u64 ((bt138.1 : Nat) : Int) 9218868437227405312) (IntKind.u64.wrap ((IntKind.u64.wrap (wrap64 ((wrap64 ((wrap64 ((wrap64 (a1 + bt138.2)) + (wrap64 ((Go.bits .and .i64 (wrap64 (((bt138.1 : Nat) : Int) / 4503599627370496)) 2047) - 1023)))) + 53)) + 1023))) * 4503599627370496)) : Int).toNat)).getD 0)) else (none)) else (if (Go.floatBits .mul .f64 4607182418800017408 ((Go.bits .or .u64 (Go.bits .andNot .u64 ((bt138.1 : Nat) : Int) 9218868437227405312) (IntKind.u64.wrap ((IntKind.u64.wrap (wrap64 ((wrap64 ((wrap64 (a1 + bt138.2)) + (wrap64 ((Go.bits .and .i64 (wrap64 (((bt138.1 : Nat) : Int) / 4503599627370496)) 2047) - 1023)))) + 1023))) * 4503599627370496)) : Int).toNat)).isSome = true then (some ((Go.floatBits .mul .f64 4607182418800017408 ((Go.bits .or .u64 (Go.bits .andNot .u64 ((bt138.1 : Nat) : Int) 9218868437227405312) (IntKind.u64.wrap ((IntKind.u64.wrap (wrap64 ((wrap64 ((wrap64 (a1 + bt138.2)) + (wrap64 ((Go.bits .and .i64 (wrap64 (((bt138.1 : Nat) : Int) / 4503599627370496)) 2047) - 1023)))) + 1023))) * 4503599627370496)) : Int).toNat)).getD 0)) else (none))))))) = some r := H
      have A6 := Aside0.mk A60
      clear A60
      by_cases c7 : t137 = true
      · subst c7
        have H1 : (some a0) = some r := by rw [if_pos rfl] at H; exact H
        clear H
        have H := H1
        clear H1
        obtain rfl := Option.some.inj H
        go_enter Tryd.func26, Tryd.ntmps26
        go_wp2_with (first | ((with_reducible refine gate_callee (f := 18) rfl ?_); refine goesL_ (some 14) rfl rfl Tryd.func18 (by kernel_rfl) rfl #[.float .f64 a0, .int .i64 0] rfl (by (try simp only [List.map_toArray, List.map_cons, List.map_nil]); first | done | rfl | (simp only [List.length_drop, List.length_take]; rfl)) ?_; (with_reducible refine (math_IsInf.calls a0 0 false _ A4.out).mono ?_); rintro e w' ⟨rfl, ⟨nd, rfl⟩⟩; refine ⟨_, rfl, ?_⟩) | (go_at_call 17; (with_reducible refine (math_IsNaN.calls a0 true _ A6.out).mono ?_); rintro e w' ⟨rfl, ⟨nd, rfl⟩⟩))
        go_ret
        exact ⟨by first | rfl | (simp; done) | (simp [*]; done), by repeat (first | exact Drawn0.refl _ | apply Drawn0.step)⟩
      · replace c7 := Bool.eq_false_iff.mpr c7
        subst c7
        have H1 : ((math_normalize.f a0).bind fun bt138 => (if (wrap64 ((wrap64 (a1 + bt138.2)) + (wrap64 ((Go.bits .and .i64 (wrap64 (((bt138.1 : Nat) : Int) / 4503599627370496)) 2047) - 1023)))) < (-1075) then ((math_Copysign.f 0 bt138.1).bind fun t140 => (some t140)) else (if (wrap64 ((wrap64 (a1 + bt138.2)) + (wrap64 ((Go.bits .and .i64 (wrap64 (((bt138.1 : Nat) : Int) / 4503599627370496)) 2047) - 1023)))) > 1023 then (if (Go.FloatKind.f64.format.order bt138.1 0 == some .lt) = true then ((math_Inf.f (-1)).bind fun t141 => (some t141)) else ((math_Inf.f 1).bind fun t142 => (some t142))) else (if (wrap64 ((wrap64 (a1 + bt138.2)) + (wrap64 ((Go.bits .and .i64 (wrap64 (((bt138.1 : Nat) : Int) / 4503599627370496)) 2047) - 1023)))) < (-1022) then (if (Go.floatBits .mul .f64 4368491638549381120 ((Go.bits .or .u64 (Go.bits .andNot .u64 ((bt138.1 : Nat) : Int) 9218868437227405312) (IntKind.u64.wrap ((IntKind.u64.wrap (wrap64 ((wrap64 ((wrap64 ((wrap64 (a1 + bt138.2)) + (wrap64 ((Go.bits .and .i64 (wrap64 (((bt138.1 : Nat) : Int) / 4503599627370496)) 2047) - 1023)))) + 53)) + 1023))) * 4503599627370496)) : Int).toNat)).isSome = true then (some ((Go.floatBits .mul .f64 4368491638549381120 ((Go.bits .or .u64 (Go.bits .andNot .u64 ((bt138.1 : Nat) : Int) 9218868437227405312) (IntKind.u64.wrap ((IntKind.u64.wrap (wrap64 ((wrap64 ((wrap64 ((wrap64 (a1 + bt138.2)) + (wrap64 ((Go.bits .and .i64 (wrap64 (((bt138.1 : Nat) : Int) / 4503599627370496)) 2047) - 1023)))) + 53)) + 1023))) * 4503599627370496)) : Int).toNat)).getD 0)) else (none)) else (if (Go.floatBits .mul .f64 4607182418800017408 ((Go.bits .or .u64 (Go.bits .andNot .u64 ((bt138.1 : Nat) : Int) 9218868437227405312) (IntKind.u64.wrap ((IntKind.u64.wrap (wrap64 ((wrap64 ((wrap64 (a1 + bt138.2)) + (wrap64 ((Go.bits .and .i64 (wrap64 (((bt138.1 : Nat) : Int) / 4503599627370496)) 2047) - 1023)))) + 1023))) * 4503599627370496)) : Int).toNat)).isSome = true then (some ((Go.floatBits .mul .f64 4607182418800017408 ((Go.bits .or .u64 (Go.bits .andNot .u64 ((bt138.1 : Nat) : Int) 9218868437227405312) (IntKind.u64.wrap ((IntKind.u64.wrap (wrap64 ((wrap64 ((wrap64 (a1 + bt138.2)) + (wrap64 ((Go.bits .and .i64 (wrap64 (((bt138.1 : Nat) : Int) / 4503599627370496)) 2047) - 1023)))) + 1023))) * 4503599627370496)) : Int).toNat)).getD 0)) else (none)))))) = some r := by rw [if_neg (show ¬ (false = true) by decide)] at H; exact H
        clear H
        have H := H1
        clear H1
        replace H := Option.bind_eq_some_iff.mp H
        obtain ⟨⟨t138, t139⟩, A80, H⟩ := H
        replace H : (if (wrap64 ((wrap64 (a1 + t139)) + (wrap64 ((Go.bits .and .i64 (wrap64 (((t138 : Nat) : Int) / 4503599627370496)) 2047) - 1023)))) < (-1075) then ((math_Copysign.f 0 t138).bind fun t140 => (some t140)) else (if (wrap64 ((wrap64 (a1 + t139)) + (wrap64 ((Go.bits .and .i64 (wrap64 (((t138 : Nat) : Int) / 4503599627370496)) 2047) - 1023)))) > 1023 then (if (Go.FloatKind.f64.format.order t138 0 == some .lt) = true then ((math_Inf.f (-1)).bind fun t141 => (some t141)) else ((math_Inf.f 1).bind fun t142 => (some t142))) else (if (wrap64 ((wrap64 (a1 + t139)) + (wrap64 ((Go.bits .and .i64 (wrap64 (((t138 : Nat) : Int) / 4503599627370496)) 2047) - 1023)))) < (-1022) then (if (Go.floatBits .mul .f64 4368491638549381120 ((Go.bits .or .u64 (Go.bits .andNot .u64 ((t138 : Nat) : Int) 9218868437227405312) (IntKind.u64.wrap ((IntKind.u64.wrap (wrap64 ((wrap64 ((wrap64 ((wrap64 (a1 + t139)) + (wrap64 ((Go.bits .and .i64 (wrap64 (((t138 : Nat) : Int) / 4503599627370496)) 2047) - 1023)))) + 53)) + 1023))) * 4503599627370496)) : Int).toNat)).isSome = true then (some ((Go.floatBits .mul .f64 4368491638549381120 ((Go.bits .or .u64 (Go.bits .andNot .u64 ((t138 : Nat) : Int) 9218868437227405312) (IntKind.u64.wrap ((IntKind.u64.wrap (wrap64 ((wrap64 ((wrap64 ((wrap64 (a1 + t139)) + (wrap64 ((Go.bits .and .i64 (wrap64 (((t138 : Nat) : Int) / 4503599627370496)) 2047) - 1023)))) + 53)) + 1023))) * 4503599627370496)) : Int).toNat)).getD 0)) else (none)) else (if (Go.floatBits .mul .f64 4607182418800017408 ((Go.bits .or .u64 (Go.bits .andNot .u64 ((t138 : Nat) : Int) 9218868437227405312) (IntKind.u64.wrap ((IntKind.u64.wrap (wrap64 ((wrap64 ((wrap64 (a1 + t139)) + (wrap64 ((Go.bits .and .i64 (wrap64 (((t138 : Nat) : Int) / 4503599627370496)) 2047) - 1023)))) + 1023))) * 4503599627370496)) : Int).toNat)).isSome = true then (some ((Go.floatBits .mul .f64 4607182418800017408 ((Go.bits .or .u64 (Go.bits .andNot .u64 ((t138 : Nat) : Int) 9218868437227405312) (IntKind.u64.wrap ((IntKind.u64.wrap (wrap64 ((wrap64 ((wrap64 (a1 + t139)) + (wrap64 ((Go.bits .and .i64 (wrap64 (((t138 : Nat) : Int) / 4503599627370496)) 2047) - 1023)))) + 1023))) * 4503599627370496)) : Int).toNat)).getD 0)) else (none))))) = some r := H
        have A8 := Aside0.mk A80
        clear A80
        by_cases c9 : (wrap64 ((wrap64 (a1 + t139)) + (wrap64 ((Go.bits .and .i64 (wrap64 (((t138 : Nat) : Int) / 4503599627370496)) 2047) - 1023)))) < (-1075)
        · rw [if_pos c9] at H
          have c9b0 : decide ((wrap64 ((wrap64 (a1 + t139)) + (wrap64 ((Go.bits .and .i64 (wrap64 (((t138 : Nat) : Int) / 4503599627370496)) 2047) - 1023)))) < (-1075)) = true := decide_eq_true c9
          clear c9
          replace H := Option.bind_eq_some_iff.mp H
          obtain ⟨t140, A100, H⟩ := H
          replace H : (some t140) = some r := H
          have A10 := Aside0.mk A100
          clear A100
          obtain rfl := Option.some.inj H
          go_enter Tryd.func26, Tryd.ntmps26
          go_wp2_with (first | ((with_reducible refine gate_callee (f := 18) rfl ?_); refine goesL_ (some 14) rfl rfl Tryd.func18 (by kernel_rfl) rfl #[.float .f64 a0, .int .i64 0] rfl (by (try simp only [List.map_toArray, List.map_cons, List.map_nil]); first | done | rfl | (simp only [List.length_drop, List.length_take]; rfl)) ?_; (with_reducible refine (math_IsInf.calls a0 0 false _ A4.out).mono ?_); rintro e w' ⟨rfl, ⟨nd, rfl⟩⟩; refine ⟨_, rfl, ?_⟩) | (go_at_call 17; (with_reducible refine (math_IsNaN.calls a0 false _ A6.out).mono ?_); rintro e w' ⟨rfl, ⟨nd, rfl⟩⟩) | ((with_reducible refine gate_callee (f := 35) rfl ?_); refine goesL_ (some 22) rfl rfl Tryd.func35 (by kernel_rfl) rfl #[.float .f64 a0] rfl (by (try simp only [List.map_toArray, List.map_cons, List.map_nil]); first | done | rfl | (simp only [List.length_drop, List.length_take]; rfl)) ?_; (with_reducible refine (math_normalize.calls a0 t138 t139 _ A8.out).mono ?_); rintro e w' ⟨rfl, ⟨nd, rfl⟩⟩; refine ⟨_, rfl, ?_⟩) | ((with_reducible refine gate_callee (f := 36) rfl ?_); refine goesL_ (some 40) rfl rfl Tryd.func36 (by kernel_rfl) rfl #[.float .f64 0, .float .f64 t138] rfl (by (try simp only [List.map_toArray, List.map_cons, List.map_nil]); first | done | rfl | (simp only [List.length_drop, List.length_take]; rfl)) ?_; (with_reducible refine (math_Copysign.calls 0 t138 t140 _ A10.out).mono ?_); rintro e w' ⟨rfl, ⟨nd, rfl⟩⟩; refine ⟨_, rfl, ?_⟩))
          go_ret
          exact ⟨by first | rfl | (simp; done) | (simp [*]; done), by repeat (first | exact Drawn0.refl _ | apply Drawn0.step)⟩
        · rw [if_neg c9] at H
          have c9b0 : decide ((wrap64 ((wrap64 (a1 + t139)) + (wrap64 ((Go.bits .and .i64 (wrap64 (((t138 : Nat) : Int) / 4503599627370496)) 2047) - 1023)))) < (-1075)) = false := decide_eq_false c9
          clear c9
          by_cases c11 : (wrap64 ((wrap64 (a1 + t139)) + (wrap64 ((Go.bits .and .i64 (wrap64 (((t138 : Nat) : Int) / 4503599627370496)) 2047) - 1023)))) > 1023
          · rw [if_pos c11] at H
            have c11b0 : decide (1023 < (wrap64 ((wrap64 (a1 + t139)) + (wrap64 ((Go.bits .and .i64 (wrap64 (((t138 : Nat) : Int) / 4503599627370496)) 2047) - 1023))))) = true := decide_eq_true c11
            clear c11
            by_cases c12 : (Go.FloatKind.f64.format.order t138 0 == some .lt) = true
            · rw [if_pos c12] at H
              have c12b0 : (Go.FloatKind.f64.format.order t138 0 == some .lt) = true := c12
              (try (have c12b1 : decide (Go.FloatKind.f64.format.order t138 0 = some .lt) = true := by simpa using c12))
              (try (have c12b2 : (Go.FloatKind.f64.format.order t138 0 == some .lt) = true := by simpa using c12))
              clear c12
              replace H := Option.bind_eq_some_iff.mp H
              obtain ⟨t141, A130, H⟩ := H
              replace H : (some t141) = some r := H
              have A13 := Aside0.mk A130
              clear A130
              obtain rfl := Option.some.inj H
              go_enter Tryd.func26, Tryd.ntmps26
              go_wp2_with (first | ((with_reducible refine gate_callee (f := 18) rfl ?_); refine goesL_ (some 14) rfl rfl Tryd.func18 (by kernel_rfl) rfl #[.float .f64 a0, .int .i64 0] rfl (by (try simp only [List.map_toArray, List.map_cons, List.map_nil]); first | done | rfl | (simp only [List.length_drop, List.length_take]; rfl)) ?_; (with_reducible refine (math_IsInf.calls a0 0 false _ A4.out).mono ?_); rintro e w' ⟨rfl, ⟨nd, rfl⟩⟩; refine ⟨_, rfl, ?_⟩) | (go_at_call 17; (with_reducible refine (math_IsNaN.calls a0 false _ A6.out).mono ?_); rintro e w' ⟨rfl, ⟨nd, rfl⟩⟩) | ((with_reducible refine gate_callee (f := 35) rfl ?_); refine goesL_ (some 22) rfl rfl Tryd.func35 (by kernel_rfl) rfl #[.float .f64 a0] rfl (by (try simp only [List.map_toArray, List.map_cons, List.map_nil]); first | done | rfl | (simp only [List.length_drop, List.length_take]; rfl)) ?_; (with_reducible refine (math_normalize.calls a0 t138 t139 _ A8.out).mono ?_); rintro e w' ⟨rfl, ⟨nd, rfl⟩⟩; refine ⟨_, rfl, ?_⟩) | ((with_reducible refine gate_callee (f := 37) rfl ?_); refine goesL_ (some 45) rfl rfl Tryd.func37 (by kernel_rfl) rfl #[.int .i64 (-1)] rfl (by (try simp only [List.map_toArray, List.map_cons, List.map_nil]); first | done | rfl | (simp only [List.length_drop, List.length_take]; rfl)) ?_; (with_reducible refine (math_Inf.calls (-1) t141 _ A13.out).mono ?_); rintro e w' ⟨rfl, ⟨nd, rfl⟩⟩; refine ⟨_, rfl, ?_⟩))
              go_ret
              exact ⟨by first | rfl | (simp; done) | (simp [*]; done), by repeat (first | exact Drawn0.refl _ | apply Drawn0.step)⟩
            · rw [if_neg c12] at H
              have c12b0 : (Go.FloatKind.f64.format.order t138 0 == some .lt) = false := by simpa using c12
              (try (have c12b1 : decide (Go.FloatKind.f64.format.order t138 0 = some .lt) = false := by simpa using c12))
              (try (have c12b2 : (Go.FloatKind.f64.format.order t138 0 == some .lt) = false := by simpa using c12))
              (try (have c12b3 : ¬ (Go.FloatKind.f64.format.order t138 0 = some .lt) := by simpa using c12))
              clear c12
              replace H := Option.bind_eq_some_iff.mp H
              obtain ⟨t142, A140, H⟩ := H
              replace H : (some t142) = some r := H
              have A14 := Aside0.mk A140
              clear A140
              obtain rfl := Option.some.inj H
              go_enter Tryd.func26, Tryd.ntmps26
              go_wp2_with (first | ((with_reducible refine gate_callee (f := 18) rfl ?_); refine goesL_ (some 14) rfl rfl Tryd.func18 (by kernel_rfl) rfl #[.float .f64 a0, .int .i64 0] rfl (by (try simp only [List.map_toArray, List.map_cons, List.map_nil]); first | done | rfl | (simp only [List.length_drop, List.length_take]; rfl)) ?_; (with_reducible refine (math_IsInf.calls a0 0 false _ A4.out).mono ?_); rintro e w' ⟨rfl, ⟨nd, rfl⟩⟩; refine ⟨_, rfl, ?_⟩) | (go_at_call 17; (with_reducible refine (math_IsNaN.calls a0 false _ A6.out).mono ?_); rintro e w' ⟨rfl, ⟨nd, rfl⟩⟩) | ((with_reducible refine gate_callee (f := 35) rfl ?_); refine goesL_ (some 22) rfl rfl Tryd.func35 (by kernel_rfl) rfl #[.float .f64 a0] rfl (by (try simp only [List.map_toArray, List.map_cons, List.map_nil]); first | done | rfl | (simp only [List.length_drop, List.length_take]; rfl)) ?_; (with_reducible refine (math_normalize.calls a0 t138 t139 _ A8.out).mono ?_); rintro e w' ⟨rfl, ⟨nd, rfl⟩⟩; refine ⟨_, rfl, ?_⟩) | ((with_reducible refine gate_callee (f := 37) rfl ?_); refine goesL_ (some 46) rfl rfl Tryd.func37 (by kernel_rfl) rfl #[.int .i64 1] rfl (by (try simp only [List.map_toArray, List.map_cons, List.map_nil]); first | done | rfl | (simp only [List.length_drop, List.length_take]; rfl)) ?_; (with_reducible refine (math_Inf.calls 1 t142 _ A14.out).mono ?_); rintro e w' ⟨rfl, ⟨nd, rfl⟩⟩; refine ⟨_, rfl, ?_⟩))
              go_ret
              exact ⟨by first | rfl | (simp; done) | (simp [*]; done), by repeat (first | exact Drawn0.refl _ | apply Drawn0.step)⟩
          · rw [if_neg c11] at H
            have c11b0 : decide (1023 < (wrap64 ((wrap64 (a1 + t139)) + (wrap64 ((Go.bits .and .i64 (wrap64 (((t138 : Nat) : Int) / 4503599627370496)) 2047) - 1023))))) = false := decide_eq_false c11
            clear c11
            by_cases c15 : (wrap64 ((wrap64 (a1 + t139)) + (wrap64 ((Go.bits .and .i64 (wrap64 (((t138 : Nat) : Int) / 4503599627370496)) 2047) - 1023)))) < (-1022)
            · rw [if_pos c15] at H
              have c15b0 : decide ((wrap64 ((wrap64 (a1 + t139)) + (wrap64 ((Go.bits .and .i64 (wrap64 (((t138 : Nat) : Int) / 4503599627370496)) 2047) - 1023)))) < (-1022)) = true := decide_eq_true c15
              clear c15
              by_cases c16 : (Go.floatBits .mul .f64 4368491638549381120 ((Go.bits .or .u64 (Go.bits .andNot .u64 ((t138 : Nat) : Int) 9218868437227405312) (IntKind.u64.wrap ((IntKind.u64.wrap (wrap64 ((wrap64 ((wrap64 ((wrap64 (a1 + t139)) + (wrap64 ((Go.bits .and .i64 (wrap64 (((t138 : Nat) : Int) / 4503599627370496)) 2047) - 1023)))) + 53)) + 1023))) * 4503599627370496)) : Int).toNat)).isSome = true
              · rw [if_pos c16] at H
                have c16b0 := eq_true c16
                have c16b1 : decide ((Go.floatBits .mul .f64 4368491638549381120 ((Go.bits .or .u64 (Go.bits .andNot .u64 ((t138 : Nat) : Int) 9218868437227405312) (IntKind.u64.wrap ((IntKind.u64.wrap (wrap64 ((wrap64 ((wrap64 ((wrap64 (a1 + t139)) + (wrap64 ((Go.bits .and .i64 (wrap64 (((t138 : Nat) : Int) / 4503599627370496)) 2047) - 1023)))) + 53)) + 1023))) * 4503599627370496)) : Int).toNat)).isSome = true) = true := decide_eq_true c16
                obtain rfl := Option.some.inj H
                go_enter Tryd.func26, Tryd.ntmps26
                go_wp2_with (first | ((with_reducible refine gate_callee (f := 18) rfl ?_); refine goesL_ (some 14) rfl rfl Tryd.func18 (by kernel_rfl) rfl #[.float .f64 a0, .int .i64 0] rfl (by (try simp only [List.map_toArray, List.map_cons, List.map_nil]); first | done | rfl | (simp only [List.length_drop, List.length_take]; rfl)) ?_; (with_reducible refine (math_IsInf.calls a0 0 false _ A4.out).mono ?_); rintro e w' ⟨rfl, ⟨nd, rfl⟩⟩; refine ⟨_, rfl, ?_⟩) | (go_at_call 17; (with_reducible refine (math_IsNaN.calls a0 false _ A6.out).mono ?_); rintro e w' ⟨rfl, ⟨nd, rfl⟩⟩) | ((with_reducible refine gate_callee (f := 35) rfl ?_); refine goesL_ (some 22) rfl rfl Tryd.func35 (by kernel_rfl) rfl #[.float .f64 a0] rfl (by (try simp only [List.map_toArray, List.map_cons, List.map_nil]); first | done | rfl | (simp only [List.length_drop, List.length_take]; rfl)) ?_; (with_reducible refine (math_normalize.calls a0 t138 t139 _ A8.out).mono ?_); rintro e w' ⟨rfl, ⟨nd, rfl⟩⟩; refine ⟨_, rfl, ?_⟩))
                go_ret
                exact ⟨by first | rfl | (simp; done) | (simp [*]; done), by repeat (first | exact Drawn0.refl _ | apply Drawn0.step)⟩
              · rw [if_neg c16] at H
                exact absurd H (by simp)
            · rw [if_neg c15] at H
              have c15b0 : decide ((wrap64 ((wrap64 (a1 + t139)) + (wrap64 ((Go.bits .and .i64 (wrap64 (((t138 : Nat) : Int) / 4503599627370496)) 2047) - 1023)))) < (-1022)) = false := decide_eq_false c15
              clear c15
              by_cases c17 : (Go.floatBits .mul .f64 4607182418800017408 ((Go.bits .or .u64 (Go.bits .andNot .u64 ((t138 : Nat) : Int) 9218868437227405312) (IntKind.u64.wrap ((IntKind.u64.wrap (wrap64 ((wrap64 ((wrap64 (a1 + t139)) + (wrap64 ((Go.bits .and .i64 (wrap64 (((t138 : Nat) : Int) / 4503599627370496)) 2047) - 1023)))) + 1023))) * 4503599627370496)) : Int).toNat)).isSome = true
              · rw [if_pos c17] at H
                have c17b0 := eq_true c17
                have c17b1 : decide ((Go.floatBits .mul .f64 4607182418800017408 ((Go.bits .or .u64 (Go.bits .andNot .u64 ((t138 : Nat) : Int) 9218868437227405312) (IntKind.u64.wrap ((IntKind.u64.wrap (wrap64 ((wrap64 ((wrap64 (a1 + t139)) + (wrap64 ((Go.bits .and .i64 (wrap64 (((t138 : Nat) : Int) / 4503599627370496)) 2047) - 1023)))) + 1023))) * 4503599627370496)) : Int).toNat)).isSome = true) = true := decide_eq_true c17
                obtain rfl := Option.some.inj H
                go_enter Tryd.func26, Tryd.ntmps26
                go_wp2_with (first | ((with_reducible refine gate_callee (f := 18) rfl ?_); refine goesL_ (some 14) rfl rfl Tryd.func18 (by kernel_rfl) rfl #[.float .f64 a0, .int .i64 0] rfl (by (try simp only [List.map_toArray, List.map_cons, List.map_nil]); first | done | rfl | (simp only [List.length_drop, List.length_take]; rfl)) ?_; (with_reducible refine (math_IsInf.calls a0 0 false _ A4.out).mono ?_); rintro e w' ⟨rfl, ⟨nd, rfl⟩⟩; refine ⟨_, rfl, ?_⟩) | (go_at_call 17; (with_reducible refine (math_IsNaN.calls a0 false _ A6.out).mono ?_); rintro e w' ⟨rfl, ⟨nd, rfl⟩⟩) | ((with_reducible refine gate_callee (f := 35) rfl ?_); refine goesL_ (some 22) rfl rfl Tryd.func35 (by kernel_rfl) rfl #[.float .f64 a0] rfl (by (try simp only [List.map_toArray, List.map_cons, List.map_nil]); first | done | rfl | (simp only [List.length_drop, List.length_take]; rfl)) ?_; (with_reducible refine (math_normalize.calls a0 t138 t139 _ A8.out).mono ?_); rintro e w' ⟨rfl, ⟨nd, rfl⟩⟩; refine ⟨_, rfl, ?_⟩))
                go_ret
                exact ⟨by first | rfl | (simp; done) | (simp [*]; done), by repeat (first | exact Drawn0.refl _ | apply Drawn0.step)⟩
              · rw [if_neg c17] at H
                exact absurd H (by simp)

/-! ### math_Ldexp: function 12 -/
def math_Ldexp.f (a0 : Nat) (a1 : Int) : Option (Nat) := (math_ldexp.f a0 a1).bind fun t143 => (some t143)
set_option maxHeartbeats 8000000 in
set_option maxRecDepth 100000 in
theorem math_Ldexp.calls (a0 : Nat) (a1 : Int) (r : Nat) (w : World) (h : math_Ldexp.f a0 a1 = some r) :
    Calls Tryd.prog 12 #[.float .f64 a0, .int .i64 a1] w fun e w' => e = .returned (.float .f64 r) ∧ Drawn0 w w' := by
  have H : ((math_ldexp.f a0 a1).bind fun t143 => (some t143)) = some r := h
  clear h
  replace H := Option.bind_eq_some_iff.mp H
  obtain ⟨t143, A30, H⟩ := H
  replace H : (some t143) = some r := H
  have A3 := Aside0.mk A30
  clear A30
  obtain rfl := Option.some.inj H
  go_enter Tryd.func12, Tryd.ntmps12
  go_wp2_with (first | ((with_reducible refine gate_callee (f := 26) rfl ?_); refine goesL_ (some 10) rfl rfl Tryd.func26 (by kernel_rfl) rfl #[.float .f64 a0, .int .i64 a1] rfl (by (try simp only [List.map_toArray, List.map_cons, List.map_nil]); first | done | rfl | (simp only [List.length_drop, List.length_take]; rfl)) ?_; (with_reducible refine (math_ldexp.calls a0 a1 t143 _ A3.out).mono ?_); rintro e w' ⟨rfl, ⟨nd, rfl⟩⟩; refine ⟨_, rfl, ?_⟩))
  go_ret
  exact ⟨by first | rfl | (simp; done) | (simp [*]; done), by repeat (first | exact Drawn0.refl _ | apply Drawn0.step)⟩

/-! ### GIVEN: bits_Len64: function 27 -/
def bits_Len64.f (a0 : Int) : Option (Int) := if 0 ≤ a0 ∧ a0 ≤ 18446744073709551615 then some (Lib.bitLen a0.toNat) else none
theorem bits_Len64.calls (a0 : Int) (r : Int) (w : World) (h : bits_Len64.f a0 = some r) :
    Calls Tryd.prog 27 #[.int .u64 a0] w fun e w' => e = .returned (.int .i64 r) ∧ Drawn0 w w' := by
  unfold bits_Len64.f at h
  by_cases c : 0 ≤ a0 ∧ a0 ≤ 18446744073709551615
  · rw [if_pos c] at h
    obtain rfl := Option.some.inj h
    refine (bits_Len64.walk a0 w c.1 c.2).mono ?_
    rintro e w' ⟨rfl, rfl⟩
    exact ⟨rfl, Drawn0.refl _⟩
  · rw [if_neg c] at h
    exact absurd h (by simp)

end Go.Proofs.YtdkhaibibpekoaaDoor.Q
