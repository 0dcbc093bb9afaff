-- PRINTED by print.py (a twelfth state) out of the translation. Not trusted: Lean checks it.
import Derived.Test.YtdkhaibibpekoaaDoorQ0
namespace Go.Proofs.YtdkhaibibpekoaaDoor.Q
open Go.RowKit Go.Proofs.YtdkhaibibpekoaaDoorW.PrintWords Go.Proofs.YtdkhaibibpekoaaDoorW.PrintLast Go.Proofs.YtdkhaibibpekoaaDoorW.PrintMore
attribute [local go_sem] max2_int min2_int max_two min_two max_three min_three max_four min_four   -- for this text's walks alone
set_option linter.unusedVariables false
set_option linter.unusedSimpArgs false

/-! ### math_IsNaN: function 17 -/
def math_IsNaN.f (a0 : Nat) : Option (Bool) := some (Go.FloatKind.f64.format.order a0 a0 != some .eq)
set_option maxHeartbeats 8000000 in
set_option maxRecDepth 100000 in
theorem math_IsNaN.calls (a0 : Nat) (r : Bool) (w : World) (h : math_IsNaN.f a0 = some r) :
    Calls Tryd.prog 17 #[.float .f64 a0] w fun e w' => e = .returned (.bool r) ∧ Drawn0 w w' := by
  have H : (some (Go.FloatKind.f64.format.order a0 a0 != some .eq)) = some r := h
  clear h
  obtain rfl := Option.some.inj H
  go_enter Tryd.func17, Tryd.ntmps17
  go_wp2
  go_ret
  exact ⟨by first | rfl | (simp; done) | (simp [*]; done), by repeat (first | exact Drawn0.refl _ | apply Drawn0.step)⟩

-- NOT PRINTED: function 15 (math_Float64bits)

-- NOT PRINTED: function 20 (math_Float64frombits)

/-! ### math_Abs: function 32 -/
def math_Abs.f (a0 : Nat) : Option (Nat) := some ((Go.bits .andNot .u64 ((a0 : Nat) : Int) 9223372036854775808 : Int).toNat)
set_option maxHeartbeats 8000000 in
set_option maxRecDepth 100000 in
theorem math_Abs.calls (a0 : Nat) (r : Nat) (w : World) (h : math_Abs.f a0 = some r) :
    Calls Tryd.prog 32 #[.float .f64 a0] w fun e w' => e = .returned (.float .f64 r) ∧ Drawn0 w w' := by
  have hx15 := @fbits_law
  have hx20 := @ffrom_law
  have H : (some ((Go.bits .andNot .u64 ((a0 : Nat) : Int) 9223372036854775808 : Int).toNat)) = some r := h
  clear h
  obtain rfl := Option.some.inj H
  go_enter Tryd.func32, Tryd.ntmps32
  go_wp2
  go_ret
  exact ⟨by first | rfl | (simp; done) | (simp [*]; done), by repeat (first | exact Drawn0.refl _ | apply Drawn0.step)⟩

/-! ### math_IsInf: function 18 -/
attribute [local go_sem] unary_neg_float   -- for this text's walks alone
def math_IsInf.f (a0 : Nat) (a1 : Int) : Option (Bool) := if a1 = 0 then ((math_Abs.f a0).bind fun t101 => (some (Go.FloatKind.f64.format.order t101 9218868437227405311 == some .gt))) else (if a1 < 0 then (some (Go.FloatKind.f64.format.order (Go.Op.negFloat .f64 a0) 9218868437227405311 == some .gt)) else (some (Go.FloatKind.f64.format.order a0 9218868437227405311 == some .gt)))
set_option maxHeartbeats 8000000 in
set_option maxRecDepth 100000 in
theorem math_IsInf.calls (a0 : Nat) (a1 : Int) (r : Bool) (w : World) (h : math_IsInf.f a0 a1 = some r) :
    Calls Tryd.prog 18 #[.float .f64 a0, .int .i64 a1] w fun e w' => e = .returned (.bool r) ∧ Drawn0 w w' := by
  have H : (if a1 = 0 then ((math_Abs.f a0).bind fun t101 => (some (Go.FloatKind.f64.format.order t101 9218868437227405311 == some .gt))) else (if a1 < 0 then (some (Go.FloatKind.f64.format.order (Go.Op.negFloat .f64 a0) 9218868437227405311 == some .gt)) else (some (Go.FloatKind.f64.format.order a0 9218868437227405311 == some .gt)))) = some r := h
  clear h
  by_cases c3 : a1 = 0
  · rw [if_pos c3] at H
    have c3b0 : (a1 == 0) = true := beq_iff_eq.mpr c3
    have c3b1 : (a1 != 0) = false := bne_eq_false_iff_eq.mpr c3
    clear c3
    replace H := Option.bind_eq_some_iff.mp H
    obtain ⟨t101, A40, H⟩ := H
    replace H : (some (Go.FloatKind.f64.format.order t101 9218868437227405311 == some .gt)) = some r := H
    have A4 := Aside0.mk A40
    clear A40
    obtain rfl := Option.some.inj H
    go_enter Tryd.func18, Tryd.ntmps18
    go_wp2_with (first | ((with_reducible refine gate_callee (f := 32) rfl ?_); refine goesL_ (some 8) rfl rfl Tryd.func32 (by kernel_rfl) rfl #[.float .f64 a0] rfl (by (try simp only [List.map_toArray, List.map_cons, List.map_nil]); first | done | rfl | (simp only [List.length_drop, List.length_take]; rfl)) ?_; (with_reducible refine (math_Abs.calls a0 t101 _ A4.out).mono ?_); rintro e w' ⟨rfl, ⟨nd, rfl⟩⟩; refine ⟨_, rfl, ?_⟩))
    go_ret
    exact ⟨by first | rfl | (simp; done) | (simp [*]; done), by repeat (first | exact Drawn0.refl _ | apply Drawn0.step)⟩
  · rw [if_neg c3] at H
    have c3b0 : (a1 == 0) = false := beq_eq_false_iff_ne.mpr c3
    have c3b1 : (a1 != 0) = true := bne_iff_ne.mpr c3
    by_cases c5 : a1 < 0
    · rw [if_pos c5] at H
      have c5b0 : decide (a1 < 0) = true := decide_eq_true c5
      clear c5
      obtain rfl := Option.some.inj H
      go_enter Tryd.func18, Tryd.ntmps18
      go_wp2
      go_ret
      exact ⟨by first | rfl | (simp; done) | (simp [*]; done), by repeat (first | exact Drawn0.refl _ | apply Drawn0.step)⟩
    · rw [if_neg c5] at H
      have c5b0 : decide (a1 < 0) = false := decide_eq_false c5
      clear c5
      obtain rfl := Option.some.inj H
      go_enter Tryd.func18, Tryd.ntmps18
      go_wp2
      go_ret
      exact ⟨by first | rfl | (simp; done) | (simp [*]; done), by repeat (first | exact Drawn0.refl _ | apply Drawn0.step)⟩

/-! ### math_archFrexp: function 40 -/
def math_archFrexp.f (a0 : Nat) : Option (Nat × Int) := none
set_option maxHeartbeats 8000000 in
set_option maxRecDepth 100000 in
theorem math_archFrexp.calls (a0 : Nat) (r1 : Nat) (r2 : Int) (w : World) (h : math_archFrexp.f a0 = some (r1, r2)) :
    Calls Tryd.prog 40 #[.float .f64 a0] w fun e w' => e = .returned (.tuple #[.float .f64 r1, .int .i64 r2]) ∧ Drawn0 w w' := by
  have H : (none) = some (r1, r2) := h
  clear h
  exact absurd H (by simp)

/-! ### math_normalize: function 35 -/
def math_normalize.f (a0 : Nat) : Option (Nat × Int) := (math_Abs.f a0).bind fun t102 => (if (Go.FloatKind.f64.format.order t102 4503599627370496 == some .lt) = true then (if (Go.floatBits .mul .f64 a0 4841369599423283200).isSome = true then (some ((Go.floatBits .mul .f64 a0 4841369599423283200).getD 0, (-52))) else (none)) else (some (a0, 0)))
set_option maxHeartbeats 8000000 in
set_option maxRecDepth 100000 in
theorem math_normalize.calls (a0 : Nat) (r1 : Nat) (r2 : Int) (w : World) (h : math_normalize.f a0 = some (r1, r2)) :
    Calls Tryd.prog 35 #[.float .f64 a0] w fun e w' => e = .returned (.tuple #[.float .f64 r1, .int .i64 r2]) ∧ Drawn0 w w' := by
  have hxmul := @fmul_law Tryd.prog
  have H : ((math_Abs.f a0).bind fun t102 => (if (Go.FloatKind.f64.format.order t102 4503599627370496 == some .lt) = true then (if (Go.floatBits .mul .f64 a0 4841369599423283200).isSome = true then (some ((Go.floatBits .mul .f64 a0 4841369599423283200).getD 0, (-52))) else (none)) else (some (a0, 0)))) = some (r1, r2) := h
  clear h
  replace H := Option.bind_eq_some_iff.mp H
  obtain ⟨t102, A20, H⟩ := H
  replace H : (if (Go.FloatKind.f64.format.order t102 4503599627370496 == some .lt) = true then (if (Go.floatBits .mul .f64 a0 4841369599423283200).isSome = true then (some ((Go.floatBits .mul .f64 a0 4841369599423283200).getD 0, (-52))) else (none)) else (some (a0, 0))) = some (r1, r2) := H
  have A2 := Aside0.mk A20
  clear A20
  by_cases c3 : (Go.FloatKind.f64.format.order t102 4503599627370496 == some .lt) = true
  · rw [if_pos c3] at H
    have c3b0 : (Go.FloatKind.f64.format.order t102 4503599627370496 == some .lt) = true := c3
    (try (have c3b1 : decide (Go.FloatKind.f64.format.order t102 4503599627370496 = some .lt) = true := by simpa using c3))
    (try (have c3b2 : (Go.FloatKind.f64.format.order t102 4503599627370496 == some .lt) = true := by simpa using c3))
    clear c3
    by_cases c4 : (Go.floatBits .mul .f64 a0 4841369599423283200).isSome = true
    · rw [if_pos c4] at H
      have c4b0 := eq_true c4
      have c4b1 : decide ((Go.floatBits .mul .f64 a0 4841369599423283200).isSome = true) = true := decide_eq_true c4
      clear c4
      simp only [Option.some.injEq, Prod.mk.injEq] at H
      obtain ⟨rfl, rfl⟩ := H
      go_enter Tryd.func35, Tryd.ntmps35
      go_wp2_with (first | ((with_reducible refine gate_callee (f := 32) rfl ?_); refine goesL_ (some 5) rfl rfl Tryd.func32 (by kernel_rfl) rfl #[.float .f64 a0] rfl (by (try simp only [List.map_toArray, List.map_cons, List.map_nil]); first | done | rfl | (simp only [List.length_drop, List.length_take]; rfl)) ?_; (with_reducible refine (math_Abs.calls a0 t102 _ A2.out).mono ?_); rintro e w' ⟨rfl, ⟨nd, rfl⟩⟩; refine ⟨_, rfl, ?_⟩))
      go_ret2
      exact ⟨by first | rfl | (simp; done) | (simp [*]; done), by repeat (first | exact Drawn0.refl _ | apply Drawn0.step)⟩
    · rw [if_neg c4] at H
      exact absurd H (by simp)
  · rw [if_neg c3] at H
    have c3b0 : (Go.FloatKind.f64.format.order t102 4503599627370496 == some .lt) = false := by simpa using c3
    (try (have c3b1 : decide (Go.FloatKind.f64.format.order t102 4503599627370496 = some .lt) = false := by simpa using c3))
    (try (have c3b2 : (Go.FloatKind.f64.format.order t102 4503599627370496 == some .lt) = false := by simpa using c3))
    (try (have c3b3 : ¬ (Go.FloatKind.f64.format.order t102 4503599627370496 = some .lt) := by simpa using c3))
    clear c3
    simp only [Option.some.injEq, Prod.mk.injEq] at H
    obtain ⟨rfl, rfl⟩ := H
    go_enter Tryd.func35, Tryd.ntmps35
    go_wp2_with (first | ((with_reducible refine gate_callee (f := 32) rfl ?_); refine goesL_ (some 5) rfl rfl Tryd.func32 (by kernel_rfl) rfl #[.float .f64 a0] rfl (by (try simp only [List.map_toArray, List.map_cons, List.map_nil]); first | done | rfl | (simp only [List.length_drop, List.length_take]; rfl)) ?_; (with_reducible refine (math_Abs.calls a0 t102 _ A2.out).mono ?_); rintro e w' ⟨rfl, ⟨nd, rfl⟩⟩; refine ⟨_, rfl, ?_⟩))
    go_ret2
    exact ⟨by first | rfl | (simp; done) | (simp [*]; done), by repeat (first | exact Drawn0.refl _ | apply Drawn0.step)⟩

/-! ### math_frexp: function 41 -/
def math_frexp.j0 : Nat → Nat → Bool → Option (Nat × Int)
  | 0, _, _ => none
  | k + 1, x0, x9 => if x9 = true then (some (x0, 0)) else ((math_normalize.f x0).bind fun bt105 => (some ((Go.bits .or .u64 (Go.bits .andNot .u64 ((bt105.1 : Nat) : Int) 9218868437227405312) 4602678819172646912 : Int).toNat, wrap64 (bt105.2 + (wrap64 ((wrap64 ((wrap64 (Go.bits .and .u64 (((bt105.1 : Nat) : Int) / 4503599627370496) 2047)) - 1023)) + 1))))))
def math_frexp.f (k : Nat) (a0 : Nat) : Option (Nat × Int) := if (Go.FloatKind.f64.format.order a0 0 == some .eq) = true then (some (a0, 0)) else ((math_IsInf.f a0 0).bind fun t103 => (if t103 = true then (math_frexp.j0 k a0 true) else ((math_IsNaN.f a0).bind fun t104 => (math_frexp.j0 k a0 t104))))
theorem math_frexp.mono_l : ∀ k, (∀ y0 y1, LeO (math_frexp.j0 k y0 y1) (math_frexp.j0 (k + 1) y0 y1))
  | 0 => fun _ _ r h => by simp [math_frexp.j0] at h
  | k + 1 => by
    have ih0 := math_frexp.mono_l k
    · intro y0 y1
      unfold math_frexp.j0
      repeat' first
      | (with_reducible exact ih0 _ _)
      | (with_reducible exact LeO.refl _)
      | (with_reducible exact LeO.none _)
      | (with_reducible refine LeO.ite ?_ ?_)
      | (with_reducible refine LeO.bind ?_ (fun _ => ?_))
      | exact ih0 _ _
      | exact LeO.none _
      | refine LeO.ite ?_ ?_
      | refine LeO.bind ?_ (fun _ => ?_)
theorem math_frexp.mono : ∀ a0 k, LeO (math_frexp.f k a0) (math_frexp.f (k + 1) a0) := by
  intro a0 k
  have ih0 := math_frexp.mono_l k
  unfold math_frexp.f
  repeat' first
      | (with_reducible exact ih0 _ _)
      | (with_reducible exact LeO.refl _)
      | (with_reducible exact LeO.none _)
      | (with_reducible refine LeO.ite ?_ ?_)
      | (with_reducible refine LeO.bind ?_ (fun _ => ?_))
      | exact ih0 _ _
      | exact LeO.none _
      | refine LeO.ite ?_ ?_
      | refine LeO.bind ?_ (fun _ => ?_)
set_option maxHeartbeats 8000000 in
set_option maxRecDepth 100000 in
theorem math_frexp.calls (k : Nat) (a0 : Nat) (r1 : Nat) (r2 : Int) (w : World) (h : math_frexp.f k a0 = some (r1, r2)) :
    Calls Tryd.prog 41 #[.float .f64 a0] w fun e w' => e = .returned (.tuple #[.float .f64 r1, .int .i64 r2]) ∧ Drawn0 w w' := by
  have hx15 := @fbits_law
  have hx20 := @ffrom_law
  have H : (if (Go.FloatKind.f64.format.order a0 0 == some .eq) = true then (some (a0, 0)) else ((math_IsInf.f a0 0).bind fun t103 => (if t103 = true then (math_frexp.j0 k a0 true) else ((math_IsNaN.f a0).bind fun t104 => (math_frexp.j0 k a0 t104))))) = some (r1, r2) := h
  clear h
  by_cases c2 : (Go.FloatKind.f64.format.order a0 0 == some .eq) = true
  · rw [if_pos c2] at H
    have c2b0 : (Go.FloatKind.f64.format.order a0 0 == some .eq) = true := c2
    (try (have c2b1 : decide (Go.FloatKind.f64.format.order a0 0 = some .eq) = true := by simpa using c2))
    (try (have c2b2 : (Go.FloatKind.f64.format.order a0 0 == some .eq) = true := by simpa using c2))
    clear c2
    simp only [Option.some.injEq, Prod.mk.injEq] at H
    obtain ⟨rfl, rfl⟩ := H
    go_enter Tryd.func41, Tryd.ntmps41
    go_wp2
    go_ret2
    exact ⟨by first | rfl | (simp; done) | (simp [*]; done), by repeat (first | exact Drawn0.refl _ | apply Drawn0.step)⟩
  · rw [if_neg c2] at H
    have c2b0 : (Go.FloatKind.f64.format.order a0 0 == some .eq) = false := by simpa using c2
    (try (have c2b1 : decide (Go.FloatKind.f64.format.order a0 0 = some .eq) = false := by simpa using c2))
    (try (have c2b2 : (Go.FloatKind.f64.format.order a0 0 == some .eq) = false := by simpa using c2))
    (try (have c2b3 : ¬ (Go.FloatKind.f64.format.order a0 0 = some .eq) := by simpa using c2))
    clear c2
    have HC3 := Aside0.mk H
    clear H
    go_enter Tryd.func41, Tryd.ntmps41
    go_upto_region 3 with (fail)
    go_cut [9] (fun v9 wc => ∃ (kq : Nat) (x9_2 : Bool), v9 = .bool x9_2 ∧ Aside0 (math_frexp.j0 kq a0 x9_2 = some (r1, r2)) ∧ Aside0 (kq ≤ k) ∧ Drawn0 w wc)
    case first =>
      have H := HC3.out
      clear HC3
      replace H := Option.bind_eq_some_iff.mp H
      obtain ⟨t103, A40, H⟩ := H
      replace H : (if t103 = true then (math_frexp.j0 k a0 true) else ((math_IsNaN.f a0).bind fun t104 => (math_frexp.j0 k a0 t104))) = some (r1, r2) := H
      have A4 := Aside0.mk A40
      clear A40
      by_cases c5 : t103 = true
      · subst c5
        have H1 : (math_frexp.j0 k a0 true) = some (r1, r2) := by rw [if_pos rfl] at H; exact H
        clear H
        have H := H1
        clear H1
        have H' := Aside0.mk H
        clear H
        go_wp2_with (first | ((with_reducible refine gate_callee (f := 18) rfl ?_); refine goesL_ (some 11) rfl rfl Tryd.func18 (by kernel_rfl) rfl #[.float .f64 a0, .int .i64 0] rfl (by (try simp only [List.map_toArray, List.map_cons, List.map_nil]); first | done | rfl | (simp only [List.length_drop, List.length_take]; rfl)) ?_; (with_reducible refine (math_IsInf.calls a0 0 true _ A4.out).mono ?_); rintro e w' ⟨rfl, ⟨nd, rfl⟩⟩; refine ⟨_, rfl, ?_⟩))
        go_meet
        case rel => exact ⟨_, (true), (by first | rfl | (simp; done) | (simp [*]; done)), H', ⟨by first | omega | exact Nat.le_refl _⟩, by repeat (first | exact Drawn0.refl _ | apply Drawn0.step)⟩
      · replace c5 := Bool.eq_false_iff.mpr c5
        subst c5
        have H1 : ((math_IsNaN.f a0).bind fun t104 => (math_frexp.j0 k a0 t104)) = some (r1, r2) := by rw [if_neg (show ¬ (false = true) by decide)] at H; exact H
        clear H
        have H := H1
        clear H1
        replace H := Option.bind_eq_some_iff.mp H
        obtain ⟨t104, A60, H⟩ := H
        replace H : (math_frexp.j0 k a0 t104) = some (r1, r2) := H
        have A6 := Aside0.mk A60
        clear A60
        have H' := Aside0.mk H
        clear H
        go_wp2_with (first | ((with_reducible refine gate_callee (f := 18) rfl ?_); refine goesL_ (some 11) rfl rfl Tryd.func18 (by kernel_rfl) rfl #[.float .f64 a0, .int .i64 0] rfl (by (try simp only [List.map_toArray, List.map_cons, List.map_nil]); first | done | rfl | (simp only [List.length_drop, List.length_take]; rfl)) ?_; (with_reducible refine (math_IsInf.calls a0 0 false _ A4.out).mono ?_); rintro e w' ⟨rfl, ⟨nd, rfl⟩⟩; refine ⟨_, rfl, ?_⟩) | (go_at_call 17; (with_reducible refine (math_IsNaN.calls a0 t104 _ A6.out).mono ?_); rintro e w' ⟨rfl, ⟨nd, rfl⟩⟩))
        go_meet
        case rel => exact ⟨_, (t104), (by first | rfl | (simp; done) | (simp [*]; done)), H', ⟨by first | omega | exact Nat.le_refl _⟩, by repeat (first | exact Drawn0.refl _ | apply Drawn0.step)⟩
    case rest =>
      clear HC3
      try clear c1
      try clear c2
      try clear c2b0
      try clear c2b1
      try clear c2b2
      try clear p2
      try clear c4
      try clear c5
      obtain ⟨kq, x9_2, rfl, HA, HJ2, ⟨mc2, rfl⟩⟩ := hcut
      cases kq with
      | zero => exact absurd HA.out (by simp [math_frexp.j0])
      | succ kj2 =>
        have H := HA.out
        clear HA
        simp only [math_frexp.j0] at H
        by_cases c7 : x9_2 = true
        · subst c7
          have H1 : (some (a0, 0)) = some (r1, r2) := by rw [if_pos rfl] at H; exact H
          clear H
          have H := H1
          clear H1
          simp only [Option.some.injEq, Prod.mk.injEq] at H
          obtain ⟨rfl, rfl⟩ := H
          go_wp2
          go_ret2
          exact ⟨by first | rfl | (simp; done) | (simp [*]; done), by repeat (first | exact Drawn0.refl _ | apply Drawn0.step)⟩
        · replace c7 := Bool.eq_false_iff.mpr c7
          subst c7
          have H1 : ((math_normalize.f a0).bind fun bt105 => (some ((Go.bits .or .u64 (Go.bits .andNot .u64 ((bt105.1 : Nat) : Int) 9218868437227405312) 4602678819172646912 : Int).toNat, wrap64 (bt105.2 + (wrap64 ((wrap64 ((wrap64 (Go.bits .and .u64 (((bt105.1 : Nat) : Int) / 4503599627370496) 2047)) - 1023)) + 1)))))) = some (r1, r2) := by rw [if_neg (show ¬ (false = true) by decide)] at H; exact H
          clear H
          have H := H1
          clear H1
          replace H := Option.bind_eq_some_iff.mp H
          obtain ⟨⟨t105, t106⟩, A80, H⟩ := H
          replace H : (some ((Go.bits .or .u64 (Go.bits .andNot .u64 ((t105 : Nat) : Int) 9218868437227405312) 4602678819172646912 : Int).toNat, wrap64 (t106 + (wrap64 ((wrap64 ((wrap64 (Go.bits .and .u64 (((t105 : Nat) : Int) / 4503599627370496) 2047)) - 1023)) + 1))))) = some (r1, r2) := H
          have A8 := Aside0.mk A80
          clear A80
          simp only [Option.some.injEq, Prod.mk.injEq] at H
          obtain ⟨rfl, rfl⟩ := H
          go_wp2_with (first | ((with_reducible refine gate_callee (f := 35) rfl ?_); refine goesL_ (some 19) rfl rfl Tryd.func35 (by kernel_rfl) rfl #[.float .f64 a0] rfl (by (try simp only [List.map_toArray, List.map_cons, List.map_nil]); first | done | rfl | (simp only [List.length_drop, List.length_take]; rfl)) ?_; (with_reducible refine (math_normalize.calls a0 t105 t106 _ A8.out).mono ?_); rintro e w' ⟨rfl, ⟨nd, rfl⟩⟩; refine ⟨_, rfl, ?_⟩))
          go_ret2
          exact ⟨by first | rfl | (simp; done) | (simp [*]; done), by repeat (first | exact Drawn0.refl _ | apply Drawn0.step)⟩

/-! ### math_Frexp: function 33 -/
def math_Frexp.f (k : Nat) (a0 : Nat) : Option (Nat × Int) := (math_frexp.f k a0).bind fun bt107 => (some (bt107.1, bt107.2))
theorem math_Frexp.mono : ∀ a0 k, LeO (math_Frexp.f k a0) (math_Frexp.f (k + 1) a0) := by
  intro a0 k
  unfold math_Frexp.f
  repeat' first
      | (with_reducible exact math_frexp.mono _ _)
      | (with_reducible exact LeO.refl _)
      | (with_reducible exact LeO.none _)
      | (with_reducible refine LeO.ite ?_ ?_)
      | (with_reducible refine LeO.bind ?_ (fun _ => ?_))
      | exact math_frexp.mono _ _
      | exact LeO.none _
      | refine LeO.ite ?_ ?_
      | refine LeO.bind ?_ (fun _ => ?_)
set_option maxHeartbeats 8000000 in
set_option maxRecDepth 100000 in
theorem math_Frexp.calls (k : Nat) (a0 : Nat) (r1 : Nat) (r2 : Int) (w : World) (h : math_Frexp.f k a0 = some (r1, r2)) :
    Calls Tryd.prog 33 #[.float .f64 a0] w fun e w' => e = .returned (.tuple #[.float .f64 r1, .int .i64 r2]) ∧ Drawn0 w w' := by
  have H : ((math_frexp.f k a0).bind fun bt107 => (some (bt107.1, bt107.2))) = some (r1, r2) := h
  clear h
  replace H := Option.bind_eq_some_iff.mp H
  obtain ⟨⟨t107, t108⟩, A20, H⟩ := H
  replace H : (some (t107, t108)) = some (r1, r2) := H
  have A2 := Aside0.mk A20
  clear A20
  simp only [Option.some.injEq, Prod.mk.injEq] at H
  obtain ⟨rfl, rfl⟩ := H
  go_enter Tryd.func33, Tryd.ntmps33
  go_wp2_with (first | ((with_reducible refine gate_callee (f := 41) rfl ?_); refine goesL_ (some 9) rfl rfl Tryd.func41 (by kernel_rfl) rfl #[.float .f64 a0] rfl (by (try simp only [List.map_toArray, List.map_cons, List.map_nil]); first | done | rfl | (simp only [List.length_drop, List.length_take]; rfl)) ?_; (with_reducible refine (math_frexp.calls k a0 t107 t108 _ A2.out).mono ?_); rintro e w' ⟨rfl, ⟨nd, rfl⟩⟩; refine ⟨_, rfl, ?_⟩))
  go_ret2
  exact ⟨by first | rfl | (simp; done) | (simp [*]; done), by repeat (first | exact Drawn0.refl _ | apply Drawn0.step)⟩

/-! ### GIVEN: bits_TrailingZeros64: function 34 -/
def bits_TrailingZeros64.f (a0 : Int) : Option (Int) := if a0 = 0 then some 64 else if 0 ≤ tzAt a0 ∧ tzAt a0 < 64 ∧ 0 ≤ dbTab.getD (tzAt a0).toNat 0 ∧ dbTab.getD (tzAt a0).toNat 0 < 64 then some (dbTab.getD (tzAt a0).toNat 0) else none
set_option maxHeartbeats 4000000 in
set_option maxRecDepth 100000 in
theorem bits_TrailingZeros64.calls (a0 : Int) (r : Int) (w : World) (h : bits_TrailingZeros64.f a0 = some r) (hL : Laid w := by first | exact HL.out | exact Laid.drewN HL.out _ | exact Laid.below HL.out (by repeat (first | (with_reducible first | exact HB.out | apply below_alloc | apply pw_below_drewN | apply below_drew1) | exact HB.out | exact Below.refl _ _))) :
    Calls Tryd.prog 34 #[.int .u64 a0] w fun e w' => e = .returned (.int .i64 r) ∧ Drawn0 w w' := by
  have hu70 := Tryd.underlying70
  unfold bits_TrailingZeros64.f at h
  by_cases c : a0 = 0
  · rw [if_pos c] at h
    obtain rfl := Option.some.inj h
    subst c
    clear hL
    go_enter Tryd.func34, Tryd.ntmps34
    go_wp2
    go_ret
    exact ⟨rfl, Drawn0.refl _⟩
  · rw [if_neg c] at h
    by_cases d : 0 ≤ tzAt a0 ∧ tzAt a0 < 64 ∧ 0 ≤ dbTab.getD (tzAt a0).toNat 0 ∧ dbTab.getD (tzAt a0).toNat 0 < 64
    · rw [if_pos d] at h
      obtain ⟨d1, d2, d3, d4⟩ := d
      have hc := hL (tzAt a0).toNat (by omega)
      rw [Option.some.inj h] at hc d3 d4
      clear h hL
      have c1 : (a0 == 0) = false := beq_eq_false_iff_ne.mpr c
      clear c
      obtain ⟨t, ht⟩ : ∃ t, t = tzAt a0 := ⟨_, rfl⟩
      rw [← ht] at d1 d2 hc
      unfold tzAt at ht
      have ht' := ht.symm
      clear ht
      go_enter Tryd.func34, Tryd.ntmps34
      go_wp2
      go_ret
      exact ⟨rfl, Drawn0.refl _⟩
    · rw [if_neg d] at h
      exact absurd h (by simp)

end Go.Proofs.YtdkhaibibpekoaaDoor.Q
