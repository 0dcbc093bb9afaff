-- PRINTED by print.py (a twelfth state) out of the translation. Not trusted: Lean checks it.
import Derived.Test.YtdkhaibibpekoaaQ0
import Derived.Test.YtdkhaibibpekoaaQ3
namespace Go.Proofs.Ytdkhaibibpekoaa.Q
open Go.RowKit Go.Proofs.YtdkhaibibpekoaaW.PrintWords Go.Proofs.YtdkhaibibpekoaaW.PrintLast Go.Proofs.YtdkhaibibpekoaaW.PrintMore
attribute [local go_sem] max2_int min2_int max_two min_two max_three min_three max_four min_four   -- for this text's walks alone
set_option linter.unusedVariables false
set_option linter.unusedSimpArgs false

/-! ### compassref02_Strict: function 12 -/
mutual
def compassref02_Strict.j0 : Nat → Int → Int → Int → Option (Int)
  | 0, _, _, _ => none
  | k + 1, x1, x5, x6 => (compassref02_Class.f x1).bind fun t124 => (if t124 = 2 then (compassref02_Strict.j1 k x5 18446744073709551615) else (compassref02_Strict.j1 k x5 x6))
def compassref02_Strict.j1 : Nat → Int → Int → Option (Int)
  | 0, _, _ => none
  | k + 1, x5, x6 => if x5 < x6 then (some (-1)) else (if x5 > x6 then (some 1) else (some 0))
end
def compassref02_Strict.f (k : Nat) (a0 : Int) (a1 : Int) : Option (Int) := (compassref02_turned.f a0).bind fun t121 => ((compassref02_turned.f a1).bind fun t122 => ((compassref02_Class.f a0).bind fun t123 => (if t123 = 2 then (compassref02_Strict.j0 k a1 18446744073709551615 t122) else (compassref02_Strict.j0 k a1 t121 t122))))
theorem compassref02_Strict.mono_l : ∀ k, (∀ y0 y1 y2, LeO (compassref02_Strict.j0 k y0 y1 y2) (compassref02_Strict.j0 (k + 1) y0 y1 y2)) ∧ (∀ y0 y1, LeO (compassref02_Strict.j1 k y0 y1) (compassref02_Strict.j1 (k + 1) y0 y1))
  | 0 => ⟨fun _ _ _ r h => by simp [compassref02_Strict.j0] at h, fun _ _ r h => by simp [compassref02_Strict.j1] at h⟩
  | k + 1 => by
    obtain ⟨ih0, ih1⟩ := compassref02_Strict.mono_l k
    refine ⟨?_, ?_⟩
    · intro y0 y1 y2
      unfold compassref02_Strict.j0
      repeat' first
      | (with_reducible exact ih0 _ _ _)
      | (with_reducible exact ih1 _ _)
      | (with_reducible exact LeO.refl _)
      | (with_reducible exact LeO.none _)
      | (with_reducible refine LeO.ite ?_ ?_)
      | (with_reducible refine LeO.bind ?_ (fun _ => ?_))
      | exact ih0 _ _ _
      | exact ih1 _ _
      | exact LeO.none _
      | refine LeO.ite ?_ ?_
      | refine LeO.bind ?_ (fun _ => ?_)
    · intro y0 y1
      unfold compassref02_Strict.j1
      repeat' first
      | (with_reducible exact ih0 _ _ _)
      | (with_reducible exact ih1 _ _)
      | (with_reducible exact LeO.refl _)
      | (with_reducible exact LeO.none _)
      | (with_reducible refine LeO.ite ?_ ?_)
      | (with_reducible refine LeO.bind ?_ (fun _ => ?_))
      | exact ih0 _ _ _
      | exact ih1 _ _
      | exact LeO.none _
      | refine LeO.ite ?_ ?_
      | refine LeO.bind ?_ (fun _ => ?_)
theorem compassref02_Strict.mono : ∀ a0 a1 k, LeO (compassref02_Strict.f k a0 a1) (compassref02_Strict.f (k + 1) a0 a1) := by
  intro a0 a1 k
  obtain ⟨ih0, ih1⟩ := compassref02_Strict.mono_l k
  unfold compassref02_Strict.f
  repeat' first
      | (with_reducible exact ih0 _ _ _)
      | (with_reducible exact ih1 _ _)
      | (with_reducible exact LeO.refl _)
      | (with_reducible exact LeO.none _)
      | (with_reducible refine LeO.ite ?_ ?_)
      | (with_reducible refine LeO.bind ?_ (fun _ => ?_))
      | exact ih0 _ _ _
      | exact ih1 _ _
      | exact LeO.none _
      | refine LeO.ite ?_ ?_
      | refine LeO.bind ?_ (fun _ => ?_)
set_option maxHeartbeats 8000000 in
set_option maxRecDepth 100000 in
theorem compassref02_Strict.calls (k : Nat) (a0 : Int) (a1 : Int) (r : Int) (w : World) (h : compassref02_Strict.f k a0 a1 = some r) :
    Calls Try.prog 12 #[.int .u64 a0, .int .u64 a1] w fun e w' => e = .returned (.int .i64 r) ∧ Drawn0 w w' := by
  have H : ((compassref02_turned.f a0).bind fun t121 => ((compassref02_turned.f a1).bind fun t122 => ((compassref02_Class.f a0).bind fun t123 => (if t123 = 2 then (compassref02_Strict.j0 k a1 18446744073709551615 t122) else (compassref02_Strict.j0 k a1 t121 t122))))) = some r := h
  clear h
  replace H := Option.bind_eq_some_iff.mp H
  obtain ⟨t121, A30, H⟩ := H
  replace H : ((compassref02_turned.f a1).bind fun t122 => ((compassref02_Class.f a0).bind fun t123 => (if t123 = 2 then (compassref02_Strict.j0 k a1 18446744073709551615 t122) else (compassref02_Strict.j0 k a1 t121 t122)))) = some r := H
  have A3 := Aside0.mk A30
  clear A30
  replace H := Option.bind_eq_some_iff.mp H
  obtain ⟨t122, A40, H⟩ := H
  replace H : ((compassref02_Class.f a0).bind fun t123 => (if t123 = 2 then (compassref02_Strict.j0 k a1 18446744073709551615 t122) else (compassref02_Strict.j0 k a1 t121 t122))) = some r := H
  have A4 := Aside0.mk A40
  clear A40
  replace H := Option.bind_eq_some_iff.mp H
  obtain ⟨t123, A50, H⟩ := H
  replace H : (if t123 = 2 then (compassref02_Strict.j0 k a1 18446744073709551615 t122) else (compassref02_Strict.j0 k a1 t121 t122)) = some r := H
  have A5 := Aside0.mk A50
  clear A50
  have HC6 := Aside0.mk H
  clear H
  go_enter Try.func12, Try.ntmps12
  go_upto_if 13 with (first | ((with_reducible refine gate_callee (f := 18) rfl ?_); refine goesL_ (some 8) rfl rfl Try.func18 (by kernel_rfl) rfl #[.int .u64 a0] rfl (by (try simp only [List.map_toArray, List.map_cons, List.map_nil]); first | done | rfl | (simp only [List.length_drop, List.length_take]; rfl)) ?_; (with_reducible refine (compassref02_turned.calls a0 t121 _ A3.out).mono ?_); rintro e w' ⟨rfl, ⟨nd, rfl⟩⟩; refine ⟨_, rfl, ?_⟩) | ((with_reducible refine gate_callee (f := 18) rfl ?_); refine goesL_ (some 10) rfl rfl Try.func18 (by kernel_rfl) rfl #[.int .u64 a1] rfl (by (try simp only [List.map_toArray, List.map_cons, List.map_nil]); first | done | rfl | (simp only [List.length_drop, List.length_take]; rfl)) ?_; (with_reducible refine (compassref02_turned.calls a1 t122 _ A4.out).mono ?_); rintro e w' ⟨rfl, ⟨nd, rfl⟩⟩; refine ⟨_, rfl, ?_⟩) | ((with_reducible refine gate_callee (f := 17) rfl ?_); refine goesL_ (some 12) rfl rfl Try.func17 (by kernel_rfl) rfl #[.int .u64 a0] rfl (by (try simp only [List.map_toArray, List.map_cons, List.map_nil]); first | done | rfl | (simp only [List.length_drop, List.length_take]; rfl)) ?_; (with_reducible refine (compassref02_Class.calls a0 t123 _ A5.out).mono ?_); rintro e w' ⟨rfl, ⟨nd, rfl⟩⟩; refine ⟨_, rfl, ?_⟩))
  (try simp only [Act.put, List.setIfInBounds_toArray, List.set_cons_zero, List.set_cons_succ])
  go_cut [5] (fun v5 wc => ∃ (kq : Nat) (x5_5 : Int), v5 = .int .u64 x5_5 ∧ Aside0 (compassref02_Strict.j0 kq a1 x5_5 t122 = some r) ∧ Aside0 (kq ≤ k) ∧ Drawn0 w wc)
  case first =>
    have H := HC6.out
    clear HC6
    by_cases c7 : t123 = 2
    · rw [if_pos c7] at H
      have c7b0 : (t123 == 2) = true := beq_iff_eq.mpr c7
      have c7b1 : (t123 != 2) = false := bne_eq_false_iff_eq.mpr c7
      clear c7
      (first | rw [c7b0] | (simp only [i64_w, i32_w]; rw [c7b0]) | skip)
      have H' := Aside0.mk H
      clear H
      go_wp2
      go_meet
      case rel => exact ⟨_, (18446744073709551615), (by first | rfl | (simp; done) | (simp [*]; done)), H', ⟨by first | omega | exact Nat.le_refl _⟩, by repeat (first | exact Drawn0.refl _ | apply Drawn0.step)⟩
    · rw [if_neg c7] at H
      have c7b0 : (t123 == 2) = false := beq_eq_false_iff_ne.mpr c7
      have c7b1 : (t123 != 2) = true := bne_iff_ne.mpr c7
      (first | rw [c7b0] | (simp only [i64_w, i32_w]; rw [c7b0]) | skip)
      have H' := Aside0.mk H
      clear H
      go_wp2
      go_meet
      case rel => exact ⟨_, (t121), (by first | rfl | (simp; done) | (simp [*]; done)), H', ⟨by first | omega | exact Nat.le_refl _⟩, by repeat (first | exact Drawn0.refl _ | apply Drawn0.step)⟩
  case rest =>
    clear HC6
    try clear c1
    try clear p2
    try clear c7
    try clear c7b0
    try clear c7b1
    obtain ⟨kq, x5_5, rfl, HA, HJ5, ⟨mc5, rfl⟩⟩ := hcut
    cases kq with
    | zero => exact absurd HA.out (by simp [compassref02_Strict.j0])
    | succ kj5 =>
      have H := HA.out
      clear HA
      simp only [compassref02_Strict.j0] at H
      replace H := Option.bind_eq_some_iff.mp H
      obtain ⟨t124, A80, H⟩ := H
      replace H : (if t124 = 2 then (compassref02_Strict.j1 kj5 x5_5 18446744073709551615) else (compassref02_Strict.j1 kj5 x5_5 t122)) = some r := H
      have A8 := Aside0.mk A80
      clear A80
      have HC9 := Aside0.mk H
      clear H
      go_upto_if 16 with (first | ((with_reducible refine gate_callee (f := 17) rfl ?_); refine goesL_ (some 15) rfl rfl Try.func17 (by kernel_rfl) rfl #[.int .u64 a1] rfl (by (try simp only [List.map_toArray, List.map_cons, List.map_nil]); first | done | rfl | (simp only [List.length_drop, List.length_take]; rfl)) ?_; (with_reducible refine (compassref02_Class.calls a1 t124 _ A8.out).mono ?_); rintro e w' ⟨rfl, ⟨nd, rfl⟩⟩; refine ⟨_, rfl, ?_⟩))
      (try simp only [Act.put, List.setIfInBounds_toArray, List.set_cons_zero, List.set_cons_succ])
      go_cut [6] (fun v6 wc => ∃ (kq : Nat) (x6_8 : Int), v6 = .int .u64 x6_8 ∧ Aside0 (compassref02_Strict.j1 kq x5_5 x6_8 = some r) ∧ Aside0 (kq ≤ kj5) ∧ Drawn0 w wc)
      case first =>
        have H := HC9.out
        clear HC9
        by_cases c10 : t124 = 2
        · rw [if_pos c10] at H
          have c10b0 : (t124 == 2) = true := beq_iff_eq.mpr c10
          have c10b1 : (t124 != 2) = false := bne_eq_false_iff_eq.mpr c10
          clear c10
          (first | rw [c10b0] | (simp only [i64_w, i32_w]; rw [c10b0]) | skip)
          have H' := Aside0.mk H
          clear H
          go_wp2
          go_meet
          case rel => exact ⟨_, (18446744073709551615), (by first | rfl | (simp; done) | (simp [*]; done)), H', ⟨by have := HJ5.out; first | omega | exact Nat.le_refl _⟩, by repeat (first | exact Drawn0.refl _ | apply Drawn0.step)⟩
        · rw [if_neg c10] at H
          have c10b0 : (t124 == 2) = false := beq_eq_false_iff_ne.mpr c10
          have c10b1 : (t124 != 2) = true := bne_iff_ne.mpr c10
          (first | rw [c10b0] | (simp only [i64_w, i32_w]; rw [c10b0]) | skip)
          have H' := Aside0.mk H
          clear H
          go_wp2
          go_meet
          case rel => exact ⟨_, (t122), (by first | rfl | (simp; done) | (simp [*]; done)), H', ⟨by have := HJ5.out; first | omega | exact Nat.le_refl _⟩, by repeat (first | exact Drawn0.refl _ | apply Drawn0.step)⟩
      case rest =>
        clear HC9
        try clear c1
        try clear p2
        try clear c5
        try clear c7
        try clear c7b0
        try clear c7b1
        try clear c10
        try clear c10b0
        try clear c10b1
        try clear p2
        obtain ⟨kq, x6_8, rfl, HA, HJ8, ⟨mc8, rfl⟩⟩ := hcut
        cases kq with
        | zero => exact absurd HA.out (by simp [compassref02_Strict.j1])
        | succ kj8 =>
          have H := HA.out
          clear HA
          simp only [compassref02_Strict.j1] at H
          by_cases c11 : x5_5 < x6_8
          · rw [if_pos c11] at H
            have c11b0 : decide (x5_5 < x6_8) = true := decide_eq_true c11
            clear c11
            obtain rfl := Option.some.inj H
            go_wp2
            go_ret
            exact ⟨by first | rfl | (simp; done) | (simp [*]; done), by repeat (first | exact Drawn0.refl _ | apply Drawn0.step)⟩
          · rw [if_neg c11] at H
            have c11b0 : decide (x5_5 < x6_8) = false := decide_eq_false c11
            clear c11
            by_cases c12 : x5_5 > x6_8
            · rw [if_pos c12] at H
              have c12b0 : decide (x6_8 < x5_5) = true := decide_eq_true c12
              clear c12
              obtain rfl := Option.some.inj H
              go_wp2
              go_ret
              exact ⟨by first | rfl | (simp; done) | (simp [*]; done), by repeat (first | exact Drawn0.refl _ | apply Drawn0.step)⟩
            · rw [if_neg c12] at H
              have c12b0 : decide (x6_8 < x5_5) = false := decide_eq_false c12
              clear c12
              obtain rfl := Option.some.inj H
              go_wp2
              go_ret
              exact ⟨by first | rfl | (simp; done) | (simp [*]; done), by repeat (first | exact Drawn0.refl _ | apply Drawn0.step)⟩

end Go.Proofs.Ytdkhaibibpekoaa.Q
