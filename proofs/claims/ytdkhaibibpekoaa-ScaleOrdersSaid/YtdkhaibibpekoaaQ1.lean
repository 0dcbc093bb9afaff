-- PRINTED by print.py (a twelfth state) out of the translation. Not trusted: Lean checks it.
import Derived.Test.YtdkhaibibpekoaaQ0
namespace Go.Proofs.Ytdkhaibibpekoaa.Q
open Go.RowKit Go.Proofs.YtdkhaibibpekoaaW.PrintWords Go.Proofs.YtdkhaibibpekoaaW.PrintLast Go.Proofs.YtdkhaibibpekoaaW.PrintMore
attribute [local go_sem] max2_int min2_int max_two min_two max_three min_three max_four min_four   -- for this text's walks alone
set_option linter.unusedVariables false
set_option linter.unusedSimpArgs false

/-! ### math_IsNaN: function 16 -/
def math_IsNaN.f (a0 : Nat) : Option (Bool) := some (Go.FloatKind.f64.format.order a0 a0 != some .eq)
set_option maxHeartbeats 8000000 in
set_option maxRecDepth 100000 in
theorem math_IsNaN.calls (a0 : Nat) (r : Bool) (w : World) (h : math_IsNaN.f a0 = some r) :
    Calls Try.prog 16 #[.float .f64 a0] w fun e w' => e = .returned (.bool r) ∧ Drawn0 w w' := by
  have H : (some (Go.FloatKind.f64.format.order a0 a0 != some .eq)) = some r := h
  clear h
  obtain rfl := Option.some.inj H
  go_enter Try.func16, Try.ntmps16
  go_wp2
  go_ret
  exact ⟨by first | rfl | (simp; done) | (simp [*]; done), by repeat (first | exact Drawn0.refl _ | apply Drawn0.step)⟩

-- NOT PRINTED: function 15 (math_Float64bits)

/-! ### math_Signbit: function 24 -/
def math_Signbit.f (a0 : Nat) : Option (Bool) := some (decide ((wrap64 (((a0 : Nat) : Int))) < 0))
set_option maxHeartbeats 8000000 in
set_option maxRecDepth 100000 in
theorem math_Signbit.calls (a0 : Nat) (r : Bool) (w : World) (h : math_Signbit.f a0 = some r) :
    Calls Try.prog 24 #[.float .f64 a0] w fun e w' => e = .returned (.bool r) ∧ Drawn0 w w' := by
  have hx15 := @fbits_law
  have H : (some (decide ((wrap64 (((a0 : Nat) : Int))) < 0))) = some r := h
  clear h
  obtain rfl := Option.some.inj H
  go_enter Try.func24, Try.ntmps24
  go_wp2
  go_ret
  exact ⟨by first | rfl | (simp; done) | (simp [*]; done), by repeat (first | exact Drawn0.refl _ | apply Drawn0.step)⟩

/-! ### scale_rank: function 14 -/
def scale_rank.f (a0 : Nat) : Option (Int) := (math_IsNaN.f a0).bind fun t101 => (if t101 = true then (some 4) else (if (Go.FloatKind.f64.format.order a0 0 == some .lt) = true then (some 0) else (if (Go.FloatKind.f64.format.order a0 0 == some .gt) = true then (some 3) else ((math_Signbit.f a0).bind fun t102 => (if t102 = true then (some 1) else (some 2))))))
set_option maxHeartbeats 8000000 in
set_option maxRecDepth 100000 in
theorem scale_rank.calls (a0 : Nat) (r : Int) (w : World) (h : scale_rank.f a0 = some r) :
    Calls Try.prog 14 #[.float .f64 a0] w fun e w' => e = .returned (.int .i64 r) ∧ Drawn0 w w' := by
  have H : ((math_IsNaN.f a0).bind fun t101 => (if t101 = true then (some 4) else (if (Go.FloatKind.f64.format.order a0 0 == some .lt) = true then (some 0) else (if (Go.FloatKind.f64.format.order a0 0 == some .gt) = true then (some 3) else ((math_Signbit.f a0).bind fun t102 => (if t102 = true then (some 1) else (some 2))))))) = some r := h
  clear h
  replace H := Option.bind_eq_some_iff.mp H
  obtain ⟨t101, A20, H⟩ := H
  replace H : (if t101 = true then (some 4) else (if (Go.FloatKind.f64.format.order a0 0 == some .lt) = true then (some 0) else (if (Go.FloatKind.f64.format.order a0 0 == some .gt) = true then (some 3) else ((math_Signbit.f a0).bind fun t102 => (if t102 = true then (some 1) else (some 2)))))) = some r := H
  have A2 := Aside0.mk A20
  clear A20
  by_cases c3 : t101 = true
  · subst c3
    have H1 : (some 4) = some r := by rw [if_pos rfl] at H; exact H
    clear H
    have H := H1
    clear H1
    obtain rfl := Option.some.inj H
    go_enter Try.func14, Try.ntmps14
    go_wp2_with (first | ((with_reducible refine gate_callee (f := 16) rfl ?_); refine goesL_ (some 5) rfl rfl Try.func16 (by kernel_rfl) rfl #[.float .f64 a0] rfl (by (try simp only [List.map_toArray, List.map_cons, List.map_nil]); first | done | rfl | (simp only [List.length_drop, List.length_take]; rfl)) ?_; (with_reducible refine (math_IsNaN.calls a0 true _ A2.out).mono ?_); rintro e w' ⟨rfl, ⟨nd, rfl⟩⟩; refine ⟨_, rfl, ?_⟩))
    go_ret
    exact ⟨by first | rfl | (simp; done) | (simp [*]; done), by repeat (first | exact Drawn0.refl _ | apply Drawn0.step)⟩
  · replace c3 := Bool.eq_false_iff.mpr c3
    subst c3
    have H1 : (if (Go.FloatKind.f64.format.order a0 0 == some .lt) = true then (some 0) else (if (Go.FloatKind.f64.format.order a0 0 == some .gt) = true then (some 3) else ((math_Signbit.f a0).bind fun t102 => (if t102 = true then (some 1) else (some 2))))) = some r := by rw [if_neg (show ¬ (false = true) by decide)] at H; exact H
    clear H
    have H := H1
    clear H1
    by_cases c4 : (Go.FloatKind.f64.format.order a0 0 == some .lt) = true
    · rw [if_pos c4] at H
      have c4b0 : (Go.FloatKind.f64.format.order a0 0 == some .lt) = true := c4
      (try (have c4b1 : decide (Go.FloatKind.f64.format.order a0 0 = some .lt) = true := by simpa using c4))
      (try (have c4b2 : (Go.FloatKind.f64.format.order a0 0 == some .lt) = true := by simpa using c4))
      clear c4
      obtain rfl := Option.some.inj H
      go_enter Try.func14, Try.ntmps14
      go_wp2_with (first | ((with_reducible refine gate_callee (f := 16) rfl ?_); refine goesL_ (some 5) rfl rfl Try.func16 (by kernel_rfl) rfl #[.float .f64 a0] rfl (by (try simp only [List.map_toArray, List.map_cons, List.map_nil]); first | done | rfl | (simp only [List.length_drop, List.length_take]; rfl)) ?_; (with_reducible refine (math_IsNaN.calls a0 false _ A2.out).mono ?_); rintro e w' ⟨rfl, ⟨nd, rfl⟩⟩; refine ⟨_, rfl, ?_⟩))
      go_ret
      exact ⟨by first | rfl | (simp; done) | (simp [*]; done), by repeat (first | exact Drawn0.refl _ | apply Drawn0.step)⟩
    · rw [if_neg c4] at H
      have c4b0 : (Go.FloatKind.f64.format.order a0 0 == some .lt) = false := by simpa using c4
      (try (have c4b1 : decide (Go.FloatKind.f64.format.order a0 0 = some .lt) = false := by simpa using c4))
      (try (have c4b2 : (Go.FloatKind.f64.format.order a0 0 == some .lt) = false := by simpa using c4))
      (try (have c4b3 : ¬ (Go.FloatKind.f64.format.order a0 0 = some .lt) := by simpa using c4))
      clear c4
      by_cases c5 : (Go.FloatKind.f64.format.order a0 0 == some .gt) = true
      · rw [if_pos c5] at H
        have c5b0 : (Go.FloatKind.f64.format.order a0 0 == some .gt) = true := c5
        (try (have c5b1 : decide (Go.FloatKind.f64.format.order a0 0 = some .gt) = true := by simpa using c5))
        (try (have c5b2 : (Go.FloatKind.f64.format.order a0 0 == some .gt) = true := by simpa using c5))
        clear c5
        obtain rfl := Option.some.inj H
        go_enter Try.func14, Try.ntmps14
        go_wp2_with (first | ((with_reducible refine gate_callee (f := 16) rfl ?_); refine goesL_ (some 5) rfl rfl Try.func16 (by kernel_rfl) rfl #[.float .f64 a0] rfl (by (try simp only [List.map_toArray, List.map_cons, List.map_nil]); first | done | rfl | (simp only [List.length_drop, List.length_take]; rfl)) ?_; (with_reducible refine (math_IsNaN.calls a0 false _ A2.out).mono ?_); rintro e w' ⟨rfl, ⟨nd, rfl⟩⟩; refine ⟨_, rfl, ?_⟩))
        go_ret
        exact ⟨by first | rfl | (simp; done) | (simp [*]; done), by repeat (first | exact Drawn0.refl _ | apply Drawn0.step)⟩
      · rw [if_neg c5] at H
        have c5b0 : (Go.FloatKind.f64.format.order a0 0 == some .gt) = false := by simpa using c5
        (try (have c5b1 : decide (Go.FloatKind.f64.format.order a0 0 = some .gt) = false := by simpa using c5))
        (try (have c5b2 : (Go.FloatKind.f64.format.order a0 0 == some .gt) = false := by simpa using c5))
        (try (have c5b3 : ¬ (Go.FloatKind.f64.format.order a0 0 = some .gt) := by simpa using c5))
        clear c5
        replace H := Option.bind_eq_some_iff.mp H
        obtain ⟨t102, A60, H⟩ := H
        replace H : (if t102 = true then (some 1) else (some 2)) = some r := H
        have A6 := Aside0.mk A60
        clear A60
        by_cases c7 : t102 = true
        · subst c7
          have H1 : (some 1) = some r := by rw [if_pos rfl] at H; exact H
          clear H
          have H := H1
          clear H1
          obtain rfl := Option.some.inj H
          go_enter Try.func14, Try.ntmps14
          go_wp2_with (first | ((with_reducible refine gate_callee (f := 16) rfl ?_); refine goesL_ (some 5) rfl rfl Try.func16 (by kernel_rfl) rfl #[.float .f64 a0] rfl (by (try simp only [List.map_toArray, List.map_cons, List.map_nil]); first | done | rfl | (simp only [List.length_drop, List.length_take]; rfl)) ?_; (with_reducible refine (math_IsNaN.calls a0 false _ A2.out).mono ?_); rintro e w' ⟨rfl, ⟨nd, rfl⟩⟩; refine ⟨_, rfl, ?_⟩) | ((with_reducible refine gate_callee (f := 24) rfl ?_); refine goesL_ (some 14) rfl rfl Try.func24 (by kernel_rfl) rfl #[.float .f64 a0] rfl (by (try simp only [List.map_toArray, List.map_cons, List.map_nil]); first | done | rfl | (simp only [List.length_drop, List.length_take]; rfl)) ?_; (with_reducible refine (math_Signbit.calls a0 true _ A6.out).mono ?_); rintro e w' ⟨rfl, ⟨nd, rfl⟩⟩; refine ⟨_, rfl, ?_⟩))
          go_ret
          exact ⟨by first | rfl | (simp; done) | (simp [*]; done), by repeat (first | exact Drawn0.refl _ | apply Drawn0.step)⟩
        · replace c7 := Bool.eq_false_iff.mpr c7
          subst c7
          have H1 : (some 2) = some r := by rw [if_neg (show ¬ (false = true) by decide)] at H; exact H
          clear H
          have H := H1
          clear H1
          obtain rfl := Option.some.inj H
          go_enter Try.func14, Try.ntmps14
          go_wp2_with (first | ((with_reducible refine gate_callee (f := 16) rfl ?_); refine goesL_ (some 5) rfl rfl Try.func16 (by kernel_rfl) rfl #[.float .f64 a0] rfl (by (try simp only [List.map_toArray, List.map_cons, List.map_nil]); first | done | rfl | (simp only [List.length_drop, List.length_take]; rfl)) ?_; (with_reducible refine (math_IsNaN.calls a0 false _ A2.out).mono ?_); rintro e w' ⟨rfl, ⟨nd, rfl⟩⟩; refine ⟨_, rfl, ?_⟩) | ((with_reducible refine gate_callee (f := 24) rfl ?_); refine goesL_ (some 14) rfl rfl Try.func24 (by kernel_rfl) rfl #[.float .f64 a0] rfl (by (try simp only [List.map_toArray, List.map_cons, List.map_nil]); first | done | rfl | (simp only [List.length_drop, List.length_take]; rfl)) ?_; (with_reducible refine (math_Signbit.calls a0 false _ A6.out).mono ?_); rintro e w' ⟨rfl, ⟨nd, rfl⟩⟩; refine ⟨_, rfl, ?_⟩))
          go_ret
          exact ⟨by first | rfl | (simp; done) | (simp [*]; done), by repeat (first | exact Drawn0.refl _ | apply Drawn0.step)⟩

/-! ### scale_Strict: function 6 -/
def scale_Strict.j0 : Nat → Nat → Nat → Int → Int → Bool → Option (Int)
  | 0, _, _, _, _, _ => none
  | k + 1, x0, x1, x5, x6, x11 => if x11 = true then (some (-1)) else (if x5 > x6 then (some 1) else (if x5 = x6 then (if (Go.FloatKind.f64.format.order x0 x1 == some .gt) = true then (some 1) else (some 0)) else (some 0)))
def scale_Strict.f (k : Nat) (a0 : Nat) (a1 : Nat) : Option (Int) := (scale_rank.f a0).bind fun t103 => ((scale_rank.f a1).bind fun t104 => (if t103 < t104 then (scale_Strict.j0 k a0 a1 t103 t104 (decide (t103 < t104))) else (if t103 = t104 then (scale_Strict.j0 k a0 a1 t103 t104 (Go.FloatKind.f64.format.order a0 a1 == some .lt)) else (scale_Strict.j0 k a0 a1 t103 t104 false))))
theorem scale_Strict.mono_l : ∀ k, (∀ y0 y1 y2 y3 y4, LeO (scale_Strict.j0 k y0 y1 y2 y3 y4) (scale_Strict.j0 (k + 1) y0 y1 y2 y3 y4))
  | 0 => fun _ _ _ _ _ r h => by simp [scale_Strict.j0] at h
  | k + 1 => by
    have ih0 := scale_Strict.mono_l k
    · intro y0 y1 y2 y3 y4
      unfold scale_Strict.j0
      repeat' first
      | (with_reducible exact ih0 _ _ _ _ _)
      | (with_reducible exact LeO.refl _)
      | (with_reducible exact LeO.none _)
      | (with_reducible refine LeO.ite ?_ ?_)
      | (with_reducible refine LeO.bind ?_ (fun _ => ?_))
      | exact ih0 _ _ _ _ _
      | exact LeO.none _
      | refine LeO.ite ?_ ?_
      | refine LeO.bind ?_ (fun _ => ?_)
theorem scale_Strict.mono : ∀ a0 a1 k, LeO (scale_Strict.f k a0 a1) (scale_Strict.f (k + 1) a0 a1) := by
  intro a0 a1 k
  have ih0 := scale_Strict.mono_l k
  unfold scale_Strict.f
  repeat' first
      | (with_reducible exact ih0 _ _ _ _ _)
      | (with_reducible exact LeO.refl _)
      | (with_reducible exact LeO.none _)
      | (with_reducible refine LeO.ite ?_ ?_)
      | (with_reducible refine LeO.bind ?_ (fun _ => ?_))
      | exact ih0 _ _ _ _ _
      | exact LeO.none _
      | refine LeO.ite ?_ ?_
      | refine LeO.bind ?_ (fun _ => ?_)
set_option maxHeartbeats 8000000 in
set_option maxRecDepth 100000 in
theorem scale_Strict.calls (k : Nat) (a0 : Nat) (a1 : Nat) (r : Int) (w : World) (h : scale_Strict.f k a0 a1 = some r) :
    Calls Try.prog 6 #[.float .f64 a0, .float .f64 a1] w fun e w' => e = .returned (.int .i64 r) ∧ Drawn0 w w' := by
  have H : ((scale_rank.f a0).bind fun t103 => ((scale_rank.f a1).bind fun t104 => (if t103 < t104 then (scale_Strict.j0 k a0 a1 t103 t104 (decide (t103 < t104))) else (if t103 = t104 then (scale_Strict.j0 k a0 a1 t103 t104 (Go.FloatKind.f64.format.order a0 a1 == some .lt)) else (scale_Strict.j0 k a0 a1 t103 t104 false))))) = some r := h
  clear h
  replace H := Option.bind_eq_some_iff.mp H
  obtain ⟨t103, A30, H⟩ := H
  replace H : ((scale_rank.f a1).bind fun t104 => (if t103 < t104 then (scale_Strict.j0 k a0 a1 t103 t104 (decide (t103 < t104))) else (if t103 = t104 then (scale_Strict.j0 k a0 a1 t103 t104 (Go.FloatKind.f64.format.order a0 a1 == some .lt)) else (scale_Strict.j0 k a0 a1 t103 t104 false)))) = some r := H
  have A3 := Aside0.mk A30
  clear A30
  replace H := Option.bind_eq_some_iff.mp H
  obtain ⟨t104, A40, H⟩ := H
  replace H : (if t103 < t104 then (scale_Strict.j0 k a0 a1 t103 t104 (decide (t103 < t104))) else (if t103 = t104 then (scale_Strict.j0 k a0 a1 t103 t104 (Go.FloatKind.f64.format.order a0 a1 == some .lt)) else (scale_Strict.j0 k a0 a1 t103 t104 false))) = some r := H
  have A4 := Aside0.mk A40
  clear A40
  have HC5 := Aside0.mk H
  clear H
  go_enter Try.func6, Try.ntmps6
  go_upto_if 11 with (first | ((with_reducible refine gate_callee (f := 14) rfl ?_); refine goesL_ (some 8) rfl rfl Try.func14 (by kernel_rfl) rfl #[.float .f64 a0] rfl (by (try simp only [List.map_toArray, List.map_cons, List.map_nil]); first | done | rfl | (simp only [List.length_drop, List.length_take]; rfl)) ?_; (with_reducible refine (scale_rank.calls a0 t103 _ A3.out).mono ?_); rintro e w' ⟨rfl, ⟨nd, rfl⟩⟩; refine ⟨_, rfl, ?_⟩) | ((with_reducible refine gate_callee (f := 14) rfl ?_); refine goesL_ (some 10) rfl rfl Try.func14 (by kernel_rfl) rfl #[.float .f64 a1] rfl (by (try simp only [List.map_toArray, List.map_cons, List.map_nil]); first | done | rfl | (simp only [List.length_drop, List.length_take]; rfl)) ?_; (with_reducible refine (scale_rank.calls a1 t104 _ A4.out).mono ?_); rintro e w' ⟨rfl, ⟨nd, rfl⟩⟩; refine ⟨_, rfl, ?_⟩))
  (try simp only [Act.put, List.setIfInBounds_toArray, List.set_cons_zero, List.set_cons_succ])
  go_cut [11] (fun v11 wc => ∃ (kq : Nat) (x11_4 : Bool), v11 = .bool x11_4 ∧ Aside0 (scale_Strict.j0 kq a0 a1 t103 t104 x11_4 = some r) ∧ Aside0 (kq ≤ k) ∧ Drawn0 w wc)
  case first =>
    have H := HC5.out
    clear HC5
    by_cases c6 : t103 < t104
    · rw [if_pos c6] at H
      have c6b0 : decide (t103 < t104) = true := decide_eq_true c6
      clear c6
      (first | rw [c6b0] | (simp only [i64_w, i32_w]; rw [c6b0]) | skip)
      have H' := Aside0.mk H
      clear H
      go_wp2
      go_meet
      case rel => exact ⟨_, (decide (t103 < t104)), (by first | rfl | (simp; done) | (simp [*]; done)), H', ⟨by first | omega | exact Nat.le_refl _⟩, by repeat (first | exact Drawn0.refl _ | apply Drawn0.step)⟩
    · rw [if_neg c6] at H
      have c6b0 : decide (t103 < t104) = false := decide_eq_false c6
      clear c6
      (first | rw [c6b0] | (simp only [i64_w, i32_w]; rw [c6b0]) | skip)
      by_cases c7 : t103 = t104
      · rw [if_pos c7] at H
        have c7b0 : (t103 == t104) = true := beq_iff_eq.mpr c7
        have c7b1 : (t103 != t104) = false := bne_eq_false_iff_eq.mpr c7
        clear c7
        have H' := Aside0.mk H
        clear H
        go_wp2
        go_meet
        case rel => exact ⟨_, ((Go.FloatKind.f64.format.order a0 a1 == some .lt)), (by first | rfl | (simp; done) | (simp [*]; done)), H', ⟨by first | omega | exact Nat.le_refl _⟩, by repeat (first | exact Drawn0.refl _ | apply Drawn0.step)⟩
      · rw [if_neg c7] at H
        have c7b0 : (t103 == t104) = false := beq_eq_false_iff_ne.mpr c7
        have c7b1 : (t103 != t104) = true := bne_iff_ne.mpr c7
        have H' := Aside0.mk H
        clear H
        go_wp2
        go_meet
        case rel => exact ⟨_, (false), (by first | rfl | (simp; done) | (simp [*]; done)), H', ⟨by first | omega | exact Nat.le_refl _⟩, by repeat (first | exact Drawn0.refl _ | apply Drawn0.step)⟩
  case rest =>
    clear HC5
    try clear c1
    try clear p2
    try clear c6
    try clear c6b0
    try clear c7
    try clear c7b0
    try clear c7b1
    obtain ⟨kq, x11_4, rfl, HA, HJ4, ⟨mc4, rfl⟩⟩ := hcut
    cases kq with
    | zero => exact absurd HA.out (by simp [scale_Strict.j0])
    | succ kj4 =>
      have H := HA.out
      clear HA
      simp only [scale_Strict.j0] at H
      by_cases c8 : x11_4 = true
      · subst c8
        have H1 : (some (-1)) = some r := by rw [if_pos rfl] at H; exact H
        clear H
        have H := H1
        clear H1
        obtain rfl := Option.some.inj H
        go_wp2
        go_ret
        exact ⟨by first | rfl | (simp; done) | (simp [*]; done), by repeat (first | exact Drawn0.refl _ | apply Drawn0.step)⟩
      · replace c8 := Bool.eq_false_iff.mpr c8
        subst c8
        have H1 : (if t103 > t104 then (some 1) else (if t103 = t104 then (if (Go.FloatKind.f64.format.order a0 a1 == some .gt) = true then (some 1) else (some 0)) else (some 0))) = some r := by rw [if_neg (show ¬ (false = true) by decide)] at H; exact H
        clear H
        have H := H1
        clear H1
        by_cases c9 : t103 > t104
        · rw [if_pos c9] at H
          have c9b0 : decide (t104 < t103) = true := decide_eq_true c9
          clear c9
          obtain rfl := Option.some.inj H
          go_wp2
          go_ret
          exact ⟨by first | rfl | (simp; done) | (simp [*]; done), by repeat (first | exact Drawn0.refl _ | apply Drawn0.step)⟩
        · rw [if_neg c9] at H
          have c9b0 : decide (t104 < t103) = false := decide_eq_false c9
          clear c9
          by_cases c10 : t103 = t104
          · rw [if_pos c10] at H
            have c10b0 : (t103 == t104) = true := beq_iff_eq.mpr c10
            have c10b1 : (t103 != t104) = false := bne_eq_false_iff_eq.mpr c10
            clear c10
            by_cases c11 : (Go.FloatKind.f64.format.order a0 a1 == some .gt) = true
            · rw [if_pos c11] at H
              have c11b0 : (Go.FloatKind.f64.format.order a0 a1 == some .gt) = true := c11
              (try (have c11b1 : decide (Go.FloatKind.f64.format.order a0 a1 = some .gt) = true := by simpa using c11))
              (try (have c11b2 : (Go.FloatKind.f64.format.order a0 a1 == some .gt) = true := by simpa using c11))
              clear c11
              obtain rfl := Option.some.inj H
              go_wp2
              go_ret
              exact ⟨by first | rfl | (simp; done) | (simp [*]; done), by repeat (first | exact Drawn0.refl _ | apply Drawn0.step)⟩
            · rw [if_neg c11] at H
              have c11b0 : (Go.FloatKind.f64.format.order a0 a1 == some .gt) = false := by simpa using c11
              (try (have c11b1 : decide (Go.FloatKind.f64.format.order a0 a1 = some .gt) = false := by simpa using c11))
              (try (have c11b2 : (Go.FloatKind.f64.format.order a0 a1 == some .gt) = false := by simpa using c11))
              (try (have c11b3 : ¬ (Go.FloatKind.f64.format.order a0 a1 = some .gt) := by simpa using c11))
              clear c11
              obtain rfl := Option.some.inj H
              go_wp2
              go_ret
              exact ⟨by first | rfl | (simp; done) | (simp [*]; done), by repeat (first | exact Drawn0.refl _ | apply Drawn0.step)⟩
          · rw [if_neg c10] at H
            have c10b0 : (t103 == t104) = false := beq_eq_false_iff_ne.mpr c10
            have c10b1 : (t103 != t104) = true := bne_iff_ne.mpr c10
            obtain rfl := Option.some.inj H
            go_wp2
            go_ret
            exact ⟨by first | rfl | (simp; done) | (simp [*]; done), by repeat (first | exact Drawn0.refl _ | apply Drawn0.step)⟩

-- NOT PRINTED: function 8 (math_Float64frombits)

/-! ### math_Copysign: function 7 -/
def math_Copysign.f (a0 : Nat) (a1 : Nat) : Option (Nat) := some ((Go.bits .or .u64 (Go.bits .andNot .u64 ((a0 : Nat) : Int) 9223372036854775808) (Go.bits .and .u64 ((a1 : Nat) : Int) 9223372036854775808) : Int).toNat)
set_option maxHeartbeats 8000000 in
set_option maxRecDepth 100000 in
theorem math_Copysign.calls (a0 : Nat) (a1 : Nat) (r : Nat) (w : World) (h : math_Copysign.f a0 a1 = some r) :
    Calls Try.prog 7 #[.float .f64 a0, .float .f64 a1] w fun e w' => e = .returned (.float .f64 r) ∧ Drawn0 w w' := by
  have hx8 := @ffrom_law
  have hx15 := @fbits_law
  have H : (some ((Go.bits .or .u64 (Go.bits .andNot .u64 ((a0 : Nat) : Int) 9223372036854775808) (Go.bits .and .u64 ((a1 : Nat) : Int) 9223372036854775808) : Int).toNat)) = some r := h
  clear h
  obtain rfl := Option.some.inj H
  go_enter Try.func7, Try.ntmps7
  go_wp2
  go_ret
  exact ⟨by first | rfl | (simp; done) | (simp [*]; done), by repeat (first | exact Drawn0.refl _ | apply Drawn0.step)⟩

end Go.Proofs.Ytdkhaibibpekoaa.Q
