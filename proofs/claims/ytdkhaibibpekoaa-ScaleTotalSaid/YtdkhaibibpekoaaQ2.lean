-- PRINTED by print.py (a twelfth state) out of the translation. Not trusted: Lean checks it.
import Derived.Test.YtdkhaibibpekoaaQ0
import Derived.Test.YtdkhaibibpekoaaQ1
namespace Go.Proofs.Ytdkhaibibpekoaa.Q
open Go.RowKit Go.Proofs.YtdkhaibibpekoaaW.PrintWords Go.Proofs.YtdkhaibibpekoaaW.PrintLast Go.Proofs.YtdkhaibibpekoaaW.PrintMore
attribute [local go_sem] max2_int min2_int max_two min_two max_three min_three max_four min_four   -- for this text's walks alone
set_option linter.unusedVariables false
set_option linter.unusedSimpArgs false

/-! ### compasslaw02_ScaleTotal: function 3 -/
attribute [local go_sem] unary_neg_float   -- for this text's walks alone
mutual
def compasslaw02_ScaleTotal.j0 : Nat → Int → Int → Int → Bool → Option (Bool)
  | 0, _, _, _, _ => none
  | k + 1, x0, x1, x2, x18 => if x18 = true then (some false) else ((scale_Strict.f k ((x0 : Int).toNat) ((x1 : Int).toNat)).bind fun t108 => ((scale_Strict.f k ((x1 : Int).toNat) ((x2 : Int).toNat)).bind fun t109 => ((scale_Strict.f k ((x1 : Int).toNat) ((x0 : Int).toNat)).bind fun t110 => (if t108 = (wrap64 (-t110)) then (if t108 < (-1) then (compasslaw02_ScaleTotal.j1 k x0 x1 ((x0 : Int).toNat) ((x1 : Int).toNat) t108 true) else (if t108 > 1 then (compasslaw02_ScaleTotal.j1 k x0 x1 ((x0 : Int).toNat) ((x1 : Int).toNat) t108 true) else (if t108 ≤ 0 then (if t109 ≤ 0 then ((scale_Strict.f k ((x0 : Int).toNat) ((x2 : Int).toNat)).bind fun t111 => (compasslaw02_ScaleTotal.j1 k x0 x1 ((x0 : Int).toNat) ((x1 : Int).toNat) t108 (decide (t111 > 0)))) else (compasslaw02_ScaleTotal.j1 k x0 x1 ((x0 : Int).toNat) ((x1 : Int).toNat) t108 false)) else (compasslaw02_ScaleTotal.j1 k x0 x1 ((x0 : Int).toNat) ((x1 : Int).toNat) t108 false)))) else (compasslaw02_ScaleTotal.j1 k x0 x1 ((x0 : Int).toNat) ((x1 : Int).toNat) t108 true)))))
def compasslaw02_ScaleTotal.j1 : Nat → Int → Int → Nat → Nat → Int → Bool → Option (Bool)
  | 0, _, _, _, _, _, _ => none
  | k + 1, x0, x1, x7, x8, x10, x58 => if x58 = true then (some false) else (if (Go.FloatKind.f64.format.order x7 x7 == some .eq) = true then (if (Go.FloatKind.f64.format.order x8 x8 == some .eq) = true then ((scale_Strict.f k (Go.Op.negFloat .f64 x8) (Go.Op.negFloat .f64 x7)).bind fun t112 => (if x10 = t112 then (if ((x10 == 0) == (x0 == x1)) = true then (if x10 < 0 then (some ((Go.FloatKind.f64.format.order x7 x8 == some .lt) == (Go.FloatKind.f64.format.order x7 x8 != some .eq))) else (some ((Go.FloatKind.f64.format.order x7 x8 == some .lt) == false))) else (some false)) else (some false))) else (if (Go.FloatKind.f64.format.order x7 x7 != some .eq) = true then (some ((x10 == 0) == (Go.FloatKind.f64.format.order x8 x8 != some .eq))) else (some ((x10 == 0) == false)))) else (if (Go.FloatKind.f64.format.order x7 x7 != some .eq) = true then (some ((x10 == 0) == (Go.FloatKind.f64.format.order x8 x8 != some .eq))) else (some ((x10 == 0) == false))))
end
def compasslaw02_ScaleTotal.f (k : Nat) (a0 : Int) (a1 : Int) (a2 : Int) : Option (Bool) := (scale_Strict.f k 4607182418800017408 4611686018427387904).bind fun t105 => (if t105 = (-1) then ((math_Copysign.f 0 13830554455654793216).bind fun t106 => ((scale_Strict.f k t106 0).bind fun t107 => (compasslaw02_ScaleTotal.j0 k a0 a1 a2 (t107 != (-1))))) else (compasslaw02_ScaleTotal.j0 k a0 a1 a2 true))
theorem compasslaw02_ScaleTotal.mono_l : ∀ k, (∀ y0 y1 y2 y3, LeO (compasslaw02_ScaleTotal.j0 k y0 y1 y2 y3) (compasslaw02_ScaleTotal.j0 (k + 1) y0 y1 y2 y3)) ∧ (∀ y0 y1 y2 y3 y4 y5, LeO (compasslaw02_ScaleTotal.j1 k y0 y1 y2 y3 y4 y5) (compasslaw02_ScaleTotal.j1 (k + 1) y0 y1 y2 y3 y4 y5))
  | 0 => ⟨fun _ _ _ _ r h => by simp [compasslaw02_ScaleTotal.j0] at h, fun _ _ _ _ _ _ r h => by simp [compasslaw02_ScaleTotal.j1] at h⟩
  | k + 1 => by
    obtain ⟨ih0, ih1⟩ := compasslaw02_ScaleTotal.mono_l k
    refine ⟨?_, ?_⟩
    · intro y0 y1 y2 y3
      unfold compasslaw02_ScaleTotal.j0
      repeat' first
      | (with_reducible exact ih0 _ _ _ _)
      | (with_reducible exact ih1 _ _ _ _ _ _)
      | (with_reducible exact scale_Strict.mono _ _ _)
      | (with_reducible exact LeO.refl _)
      | (with_reducible exact LeO.none _)
      | (with_reducible refine LeO.ite ?_ ?_)
      | (with_reducible refine LeO.bind ?_ (fun _ => ?_))
      | exact ih0 _ _ _ _
      | exact ih1 _ _ _ _ _ _
      | exact scale_Strict.mono _ _ _
      | exact LeO.none _
      | refine LeO.ite ?_ ?_
      | refine LeO.bind ?_ (fun _ => ?_)
    · intro y0 y1 y2 y3 y4 y5
      unfold compasslaw02_ScaleTotal.j1
      repeat' first
      | (with_reducible exact ih0 _ _ _ _)
      | (with_reducible exact ih1 _ _ _ _ _ _)
      | (with_reducible exact scale_Strict.mono _ _ _)
      | (with_reducible exact LeO.refl _)
      | (with_reducible exact LeO.none _)
      | (with_reducible refine LeO.ite ?_ ?_)
      | (with_reducible refine LeO.bind ?_ (fun _ => ?_))
      | exact ih0 _ _ _ _
      | exact ih1 _ _ _ _ _ _
      | exact scale_Strict.mono _ _ _
      | exact LeO.none _
      | refine LeO.ite ?_ ?_
      | refine LeO.bind ?_ (fun _ => ?_)
theorem compasslaw02_ScaleTotal.mono : ∀ a0 a1 a2 k, LeO (compasslaw02_ScaleTotal.f k a0 a1 a2) (compasslaw02_ScaleTotal.f (k + 1) a0 a1 a2) := by
  intro a0 a1 a2 k
  obtain ⟨ih0, ih1⟩ := compasslaw02_ScaleTotal.mono_l k
  unfold compasslaw02_ScaleTotal.f
  repeat' first
      | (with_reducible exact ih0 _ _ _ _)
      | (with_reducible exact ih1 _ _ _ _ _ _)
      | (with_reducible exact scale_Strict.mono _ _ _)
      | (with_reducible exact LeO.refl _)
      | (with_reducible exact LeO.none _)
      | (with_reducible refine LeO.ite ?_ ?_)
      | (with_reducible refine LeO.bind ?_ (fun _ => ?_))
      | exact ih0 _ _ _ _
      | exact ih1 _ _ _ _ _ _
      | exact scale_Strict.mono _ _ _
      | exact LeO.none _
      | refine LeO.ite ?_ ?_
      | refine LeO.bind ?_ (fun _ => ?_)
set_option maxHeartbeats 8000000 in
set_option maxRecDepth 100000 in
theorem compasslaw02_ScaleTotal.calls (k : Nat) (a0 : Int) (a1 : Int) (a2 : Int) (r : Bool) (w : World) (hr_ : r = true) (h : compasslaw02_ScaleTotal.f k a0 a1 a2 = some r) :
    Calls Try.prog 3 #[.int .u64 a0, .int .u64 a1, .int .u64 a2] w fun e w' => e = .returned (.bool r) ∧ Drawn0 w w' := by
  have hx8 := @ffrom_law
  have HR_ := Aside0.mk hr_
  clear hr_
  have H : ((scale_Strict.f k 4607182418800017408 4611686018427387904).bind fun t105 => (if t105 = (-1) then ((math_Copysign.f 0 13830554455654793216).bind fun t106 => ((scale_Strict.f k t106 0).bind fun t107 => (compasslaw02_ScaleTotal.j0 k a0 a1 a2 (t107 != (-1))))) else (compasslaw02_ScaleTotal.j0 k a0 a1 a2 true))) = some r := h
  clear h
  have HC4 := Aside0.mk H
  clear H
  go_enter Try.func3, Try.ntmps3
  go_upto_region 1 with (fail)
  go_cut [18] (fun v18 wc => ∃ (kq : Nat) (x18_3 : Bool), v18 = .bool x18_3 ∧ Aside0 (compasslaw02_ScaleTotal.j0 kq a0 a1 a2 x18_3 = some r) ∧ Aside0 (kq ≤ k) ∧ Drawn0 w wc)
  case first =>
    have H := HC4.out
    clear HC4
    replace H := Option.bind_eq_some_iff.mp H
    obtain ⟨t105, A50, H⟩ := H
    replace H : (if t105 = (-1) then ((math_Copysign.f 0 13830554455654793216).bind fun t106 => ((scale_Strict.f k t106 0).bind fun t107 => (compasslaw02_ScaleTotal.j0 k a0 a1 a2 (t107 != (-1))))) else (compasslaw02_ScaleTotal.j0 k a0 a1 a2 true)) = some r := H
    have A5 := Aside0.mk A50
    clear A50
    by_cases c6 : t105 = (-1)
    · rw [if_pos c6] at H
      have c6b0 : (t105 == (-1)) = true := beq_iff_eq.mpr c6
      have c6b1 : (t105 != (-1)) = false := bne_eq_false_iff_eq.mpr c6
      clear c6
      (first | rw [c6b0] | (simp only [i64_w, i32_w]; rw [c6b0]) | skip)
      replace H := Option.bind_eq_some_iff.mp H
      obtain ⟨t106, A70, H⟩ := H
      replace H : ((scale_Strict.f k t106 0).bind fun t107 => (compasslaw02_ScaleTotal.j0 k a0 a1 a2 (t107 != (-1)))) = some r := H
      have A7 := Aside0.mk A70
      clear A70
      replace H := Option.bind_eq_some_iff.mp H
      obtain ⟨t107, A80, H⟩ := H
      replace H : (compasslaw02_ScaleTotal.j0 k a0 a1 a2 (t107 != (-1))) = some r := H
      have A8 := Aside0.mk A80
      clear A80
      have H' := Aside0.mk H
      clear H
      go_wp2_with (first | ((with_reducible refine gate_callee (f := 6) rfl ?_); refine goesL_ (some 12) rfl rfl Try.func6 (by kernel_rfl) rfl #[.float .f64 4607182418800017408, .float .f64 4611686018427387904] rfl (by (try simp only [List.map_toArray, List.map_cons, List.map_nil]); first | done | rfl | (simp only [List.length_drop, List.length_take]; rfl)) ?_; (with_reducible refine (scale_Strict.calls k 4607182418800017408 4611686018427387904 t105 _ A5.out).mono ?_); rintro e w' ⟨rfl, ⟨nd, rfl⟩⟩; refine ⟨_, rfl, ?_⟩) | (go_at_call 7; (with_reducible refine (math_Copysign.calls 0 13830554455654793216 t106 _ A7.out).mono ?_); rintro e w' ⟨rfl, ⟨nd, rfl⟩⟩) | (go_at_call 6; (with_reducible refine (scale_Strict.calls k t106 0 t107 _ A8.out).mono ?_); rintro e w' ⟨rfl, ⟨nd, rfl⟩⟩))
      go_meet
      case rel => exact ⟨_, ((t107 != (-1))), (by first | rfl | (simp; done) | (simp [*]; done)), H', ⟨by first | omega | exact Nat.le_refl _⟩, by repeat (first | exact Drawn0.refl _ | apply Drawn0.step)⟩
    · rw [if_neg c6] at H
      have c6b0 : (t105 == (-1)) = false := beq_eq_false_iff_ne.mpr c6
      have c6b1 : (t105 != (-1)) = true := bne_iff_ne.mpr c6
      (first | rw [c6b0] | (simp only [i64_w, i32_w]; rw [c6b0]) | skip)
      have H' := Aside0.mk H
      clear H
      go_wp2_with (first | ((with_reducible refine gate_callee (f := 6) rfl ?_); refine goesL_ (some 12) rfl rfl Try.func6 (by kernel_rfl) rfl #[.float .f64 4607182418800017408, .float .f64 4611686018427387904] rfl (by (try simp only [List.map_toArray, List.map_cons, List.map_nil]); first | done | rfl | (simp only [List.length_drop, List.length_take]; rfl)) ?_; (with_reducible refine (scale_Strict.calls k 4607182418800017408 4611686018427387904 t105 _ A5.out).mono ?_); rintro e w' ⟨rfl, ⟨nd, rfl⟩⟩; refine ⟨_, rfl, ?_⟩))
      go_meet
      case rel => exact ⟨_, (true), (by first | rfl | (simp; done) | (simp [*]; done)), H', ⟨by first | omega | exact Nat.le_refl _⟩, by repeat (first | exact Drawn0.refl _ | apply Drawn0.step)⟩
  case rest =>
    clear HC4
    try clear p2
    try clear c3
    try clear c6
    try clear c6b0
    try clear c6b1
    obtain ⟨kq, x18_3, rfl, HA, HJ3, ⟨mc3, rfl⟩⟩ := hcut
    cases kq with
    | zero => exact absurd HA.out (by simp [compasslaw02_ScaleTotal.j0])
    | succ kj3 =>
      have H := HA.out
      clear HA
      simp only [compasslaw02_ScaleTotal.j0] at H
      by_cases c9 : x18_3 = true
      · subst c9
        have H1 : (some false) = some r := by rw [if_pos rfl] at H; exact H
        clear H
        have H := H1
        clear H1
        exact absurd ((Option.some.inj H).trans HR_.out) (by decide)
      · replace c9 := Bool.eq_false_iff.mpr c9
        subst c9
        have H1 : ((scale_Strict.f kj3 ((a0 : Int).toNat) ((a1 : Int).toNat)).bind fun t108 => ((scale_Strict.f kj3 ((a1 : Int).toNat) ((a2 : Int).toNat)).bind fun t109 => ((scale_Strict.f kj3 ((a1 : Int).toNat) ((a0 : Int).toNat)).bind fun t110 => (if t108 = (wrap64 (-t110)) then (if t108 < (-1) then (compasslaw02_ScaleTotal.j1 kj3 a0 a1 ((a0 : Int).toNat) ((a1 : Int).toNat) t108 true) else (if t108 > 1 then (compasslaw02_ScaleTotal.j1 kj3 a0 a1 ((a0 : Int).toNat) ((a1 : Int).toNat) t108 true) else (if t108 ≤ 0 then (if t109 ≤ 0 then ((scale_Strict.f kj3 ((a0 : Int).toNat) ((a2 : Int).toNat)).bind fun t111 => (compasslaw02_ScaleTotal.j1 kj3 a0 a1 ((a0 : Int).toNat) ((a1 : Int).toNat) t108 (decide (t111 > 0)))) else (compasslaw02_ScaleTotal.j1 kj3 a0 a1 ((a0 : Int).toNat) ((a1 : Int).toNat) t108 false)) else (compasslaw02_ScaleTotal.j1 kj3 a0 a1 ((a0 : Int).toNat) ((a1 : Int).toNat) t108 false)))) else (compasslaw02_ScaleTotal.j1 kj3 a0 a1 ((a0 : Int).toNat) ((a1 : Int).toNat) t108 true))))) = some r := by rw [if_neg (show ¬ (false = true) by decide)] at H; exact H
        clear H
        have H := H1
        clear H1
        replace H := Option.bind_eq_some_iff.mp H
        obtain ⟨t108, A100, H⟩ := H
        replace H : ((scale_Strict.f kj3 ((a1 : Int).toNat) ((a2 : Int).toNat)).bind fun t109 => ((scale_Strict.f kj3 ((a1 : Int).toNat) ((a0 : Int).toNat)).bind fun t110 => (if t108 = (wrap64 (-t110)) then (if t108 < (-1) then (compasslaw02_ScaleTotal.j1 kj3 a0 a1 ((a0 : Int).toNat) ((a1 : Int).toNat) t108 true) else (if t108 > 1 then (compasslaw02_ScaleTotal.j1 kj3 a0 a1 ((a0 : Int).toNat) ((a1 : Int).toNat) t108 true) else (if t108 ≤ 0 then (if t109 ≤ 0 then ((scale_Strict.f kj3 ((a0 : Int).toNat) ((a2 : Int).toNat)).bind fun t111 => (compasslaw02_ScaleTotal.j1 kj3 a0 a1 ((a0 : Int).toNat) ((a1 : Int).toNat) t108 (decide (t111 > 0)))) else (compasslaw02_ScaleTotal.j1 kj3 a0 a1 ((a0 : Int).toNat) ((a1 : Int).toNat) t108 false)) else (compasslaw02_ScaleTotal.j1 kj3 a0 a1 ((a0 : Int).toNat) ((a1 : Int).toNat) t108 false)))) else (compasslaw02_ScaleTotal.j1 kj3 a0 a1 ((a0 : Int).toNat) ((a1 : Int).toNat) t108 true)))) = some r := H
        have A10 := Aside0.mk A100
        clear A100
        replace H := Option.bind_eq_some_iff.mp H
        obtain ⟨t109, A110, H⟩ := H
        replace H : ((scale_Strict.f kj3 ((a1 : Int).toNat) ((a0 : Int).toNat)).bind fun t110 => (if t108 = (wrap64 (-t110)) then (if t108 < (-1) then (compasslaw02_ScaleTotal.j1 kj3 a0 a1 ((a0 : Int).toNat) ((a1 : Int).toNat) t108 true) else (if t108 > 1 then (compasslaw02_ScaleTotal.j1 kj3 a0 a1 ((a0 : Int).toNat) ((a1 : Int).toNat) t108 true) else (if t108 ≤ 0 then (if t109 ≤ 0 then ((scale_Strict.f kj3 ((a0 : Int).toNat) ((a2 : Int).toNat)).bind fun t111 => (compasslaw02_ScaleTotal.j1 kj3 a0 a1 ((a0 : Int).toNat) ((a1 : Int).toNat) t108 (decide (t111 > 0)))) else (compasslaw02_ScaleTotal.j1 kj3 a0 a1 ((a0 : Int).toNat) ((a1 : Int).toNat) t108 false)) else (compasslaw02_ScaleTotal.j1 kj3 a0 a1 ((a0 : Int).toNat) ((a1 : Int).toNat) t108 false)))) else (compasslaw02_ScaleTotal.j1 kj3 a0 a1 ((a0 : Int).toNat) ((a1 : Int).toNat) t108 true))) = some r := H
        have A11 := Aside0.mk A110
        clear A110
        have HC12 := Aside0.mk H
        clear H
        go_upto_region 5 with (first | ((with_reducible refine gate_callee (f := 6) rfl ?_); refine goesL_ (some 27) rfl rfl Try.func6 (by kernel_rfl) rfl #[.float .f64 ((a0 : Int).toNat), .float .f64 ((a1 : Int).toNat)] rfl (by (try simp only [List.map_toArray, List.map_cons, List.map_nil]); first | done | rfl | (simp only [List.length_drop, List.length_take]; rfl)) ?_; (with_reducible refine (scale_Strict.calls kj3 ((a0 : Int).toNat) ((a1 : Int).toNat) t108 _ A10.out).mono ?_); rintro e w' ⟨rfl, ⟨nd, rfl⟩⟩; refine ⟨_, rfl, ?_⟩) | ((with_reducible refine gate_callee (f := 6) rfl ?_); refine goesL_ (some 30) rfl rfl Try.func6 (by kernel_rfl) rfl #[.float .f64 ((a1 : Int).toNat), .float .f64 ((a2 : Int).toNat)] rfl (by (try simp only [List.map_toArray, List.map_cons, List.map_nil]); first | done | rfl | (simp only [List.length_drop, List.length_take]; rfl)) ?_; (with_reducible refine (scale_Strict.calls kj3 ((a1 : Int).toNat) ((a2 : Int).toNat) t109 _ A11.out).mono ?_); rintro e w' ⟨rfl, ⟨nd, rfl⟩⟩; refine ⟨_, rfl, ?_⟩))
        (try simp only [Act.put, List.setIfInBounds_toArray, List.set_cons_zero, List.set_cons_succ])
        go_cut [58] (fun v58 wc => ∃ (kq : Nat) (x58_11 : Bool), v58 = .bool x58_11 ∧ Aside0 (compasslaw02_ScaleTotal.j1 kq a0 a1 ((a0 : Int).toNat) ((a1 : Int).toNat) t108 x58_11 = some r) ∧ Aside0 (kq ≤ kj3) ∧ Drawn0 w wc)
        case first =>
          have H := HC12.out
          clear HC12
          replace H := Option.bind_eq_some_iff.mp H
          obtain ⟨t110, A130, H⟩ := H
          replace H : (if t108 = (wrap64 (-t110)) then (if t108 < (-1) then (compasslaw02_ScaleTotal.j1 kj3 a0 a1 ((a0 : Int).toNat) ((a1 : Int).toNat) t108 true) else (if t108 > 1 then (compasslaw02_ScaleTotal.j1 kj3 a0 a1 ((a0 : Int).toNat) ((a1 : Int).toNat) t108 true) else (if t108 ≤ 0 then (if t109 ≤ 0 then ((scale_Strict.f kj3 ((a0 : Int).toNat) ((a2 : Int).toNat)).bind fun t111 => (compasslaw02_ScaleTotal.j1 kj3 a0 a1 ((a0 : Int).toNat) ((a1 : Int).toNat) t108 (decide (t111 > 0)))) else (compasslaw02_ScaleTotal.j1 kj3 a0 a1 ((a0 : Int).toNat) ((a1 : Int).toNat) t108 false)) else (compasslaw02_ScaleTotal.j1 kj3 a0 a1 ((a0 : Int).toNat) ((a1 : Int).toNat) t108 false)))) else (compasslaw02_ScaleTotal.j1 kj3 a0 a1 ((a0 : Int).toNat) ((a1 : Int).toNat) t108 true)) = some r := H
          have A13 := Aside0.mk A130
          clear A130
          by_cases c14 : t108 = (wrap64 (-t110))
          · rw [if_pos c14] at H
            have c14b0 : (t108 == (wrap64 (-t110))) = true := beq_iff_eq.mpr c14
            have c14b1 : (t108 != (wrap64 (-t110))) = false := bne_eq_false_iff_eq.mpr c14
            clear c14
            (first | rw [c14b0] | (simp only [i64_w, i32_w]; rw [c14b0]) | skip)
            by_cases c15 : t108 < (-1)
            · rw [if_pos c15] at H
              have c15b0 : decide (t108 < (-1)) = true := decide_eq_true c15
              clear c15
              have H' := Aside0.mk H
              clear H
              go_wp2_with (first | ((with_reducible refine gate_callee (f := 6) rfl ?_); refine goesL_ (some 34) rfl rfl Try.func6 (by kernel_rfl) rfl #[.float .f64 ((a1 : Int).toNat), .float .f64 ((a0 : Int).toNat)] rfl (by (try simp only [List.map_toArray, List.map_cons, List.map_nil]); first | done | rfl | (simp only [List.length_drop, List.length_take]; rfl)) ?_; (with_reducible refine (scale_Strict.calls kj3 ((a1 : Int).toNat) ((a0 : Int).toNat) t110 _ A13.out).mono ?_); rintro e w' ⟨rfl, ⟨nd, rfl⟩⟩; refine ⟨_, rfl, ?_⟩))
              go_meet
              case rel => exact ⟨_, (true), (by first | rfl | (simp; done) | (simp [*]; done)), H', ⟨by have := HJ3.out; first | omega | exact Nat.le_refl _⟩, by repeat (first | exact Drawn0.refl _ | apply Drawn0.step)⟩
            · rw [if_neg c15] at H
              have c15b0 : decide (t108 < (-1)) = false := decide_eq_false c15
              clear c15
              by_cases c16 : t108 > 1
              · rw [if_pos c16] at H
                have c16b0 : decide (1 < t108) = true := decide_eq_true c16
                clear c16
                have H' := Aside0.mk H
                clear H
                go_wp2_with (first | ((with_reducible refine gate_callee (f := 6) rfl ?_); refine goesL_ (some 34) rfl rfl Try.func6 (by kernel_rfl) rfl #[.float .f64 ((a1 : Int).toNat), .float .f64 ((a0 : Int).toNat)] rfl (by (try simp only [List.map_toArray, List.map_cons, List.map_nil]); first | done | rfl | (simp only [List.length_drop, List.length_take]; rfl)) ?_; (with_reducible refine (scale_Strict.calls kj3 ((a1 : Int).toNat) ((a0 : Int).toNat) t110 _ A13.out).mono ?_); rintro e w' ⟨rfl, ⟨nd, rfl⟩⟩; refine ⟨_, rfl, ?_⟩))
                go_meet
                case rel => exact ⟨_, (true), (by first | rfl | (simp; done) | (simp [*]; done)), H', ⟨by have := HJ3.out; first | omega | exact Nat.le_refl _⟩, by repeat (first | exact Drawn0.refl _ | apply Drawn0.step)⟩
              · rw [if_neg c16] at H
                have c16b0 : decide (1 < t108) = false := decide_eq_false c16
                clear c16
                by_cases c17 : t108 ≤ 0
                · rw [if_pos c17] at H
                  have c17b0 : decide (t108 ≤ 0) = true := decide_eq_true c17
                  clear c17
                  by_cases c18 : t109 ≤ 0
                  · rw [if_pos c18] at H
                    have c18b0 : decide (t109 ≤ 0) = true := decide_eq_true c18
                    clear c18
                    replace H := Option.bind_eq_some_iff.mp H
                    obtain ⟨t111, A190, H⟩ := H
                    replace H : (compasslaw02_ScaleTotal.j1 kj3 a0 a1 ((a0 : Int).toNat) ((a1 : Int).toNat) t108 (decide (t111 > 0))) = some r := H
                    have A19 := Aside0.mk A190
                    clear A190
                    have H' := Aside0.mk H
                    clear H
                    go_wp2_with (first | ((with_reducible refine gate_callee (f := 6) rfl ?_); refine goesL_ (some 34) rfl rfl Try.func6 (by kernel_rfl) rfl #[.float .f64 ((a1 : Int).toNat), .float .f64 ((a0 : Int).toNat)] rfl (by (try simp only [List.map_toArray, List.map_cons, List.map_nil]); first | done | rfl | (simp only [List.length_drop, List.length_take]; rfl)) ?_; (with_reducible refine (scale_Strict.calls kj3 ((a1 : Int).toNat) ((a0 : Int).toNat) t110 _ A13.out).mono ?_); rintro e w' ⟨rfl, ⟨nd, rfl⟩⟩; refine ⟨_, rfl, ?_⟩) | (go_at_call 6; (with_reducible refine (scale_Strict.calls kj3 ((a0 : Int).toNat) ((a2 : Int).toNat) t111 _ A19.out).mono ?_); rintro e w' ⟨rfl, ⟨nd, rfl⟩⟩))
                    go_meet
                    case rel => exact ⟨_, (decide (t111 > 0)), (by first | rfl | (simp; done) | (simp [*]; done)), H', ⟨by have := HJ3.out; first | omega | exact Nat.le_refl _⟩, by repeat (first | exact Drawn0.refl _ | apply Drawn0.step)⟩
                  · rw [if_neg c18] at H
                    have c18b0 : decide (t109 ≤ 0) = false := decide_eq_false c18
                    clear c18
                    have H' := Aside0.mk H
                    clear H
                    go_wp2_with (first | ((with_reducible refine gate_callee (f := 6) rfl ?_); refine goesL_ (some 34) rfl rfl Try.func6 (by kernel_rfl) rfl #[.float .f64 ((a1 : Int).toNat), .float .f64 ((a0 : Int).toNat)] rfl (by (try simp only [List.map_toArray, List.map_cons, List.map_nil]); first | done | rfl | (simp only [List.length_drop, List.length_take]; rfl)) ?_; (with_reducible refine (scale_Strict.calls kj3 ((a1 : Int).toNat) ((a0 : Int).toNat) t110 _ A13.out).mono ?_); rintro e w' ⟨rfl, ⟨nd, rfl⟩⟩; refine ⟨_, rfl, ?_⟩))
                    go_meet
                    case rel => exact ⟨_, (false), (by first | rfl | (simp; done) | (simp [*]; done)), H', ⟨by have := HJ3.out; first | omega | exact Nat.le_refl _⟩, by repeat (first | exact Drawn0.refl _ | apply Drawn0.step)⟩
                · rw [if_neg c17] at H
                  have c17b0 : decide (t108 ≤ 0) = false := decide_eq_false c17
                  clear c17
                  have H' := Aside0.mk H
                  clear H
                  go_wp2_with (first | ((with_reducible refine gate_callee (f := 6) rfl ?_); refine goesL_ (some 34) rfl rfl Try.func6 (by kernel_rfl) rfl #[.float .f64 ((a1 : Int).toNat), .float .f64 ((a0 : Int).toNat)] rfl (by (try simp only [List.map_toArray, List.map_cons, List.map_nil]); first | done | rfl | (simp only [List.length_drop, List.length_take]; rfl)) ?_; (with_reducible refine (scale_Strict.calls kj3 ((a1 : Int).toNat) ((a0 : Int).toNat) t110 _ A13.out).mono ?_); rintro e w' ⟨rfl, ⟨nd, rfl⟩⟩; refine ⟨_, rfl, ?_⟩))
                  go_meet
                  case rel => exact ⟨_, (false), (by first | rfl | (simp; done) | (simp [*]; done)), H', ⟨by have := HJ3.out; first | omega | exact Nat.le_refl _⟩, by repeat (first | exact Drawn0.refl _ | apply Drawn0.step)⟩
          · rw [if_neg c14] at H
            have c14b0 : (t108 == (wrap64 (-t110))) = false := beq_eq_false_iff_ne.mpr c14
            have c14b1 : (t108 != (wrap64 (-t110))) = true := bne_iff_ne.mpr c14
            (first | rw [c14b0] | (simp only [i64_w, i32_w]; rw [c14b0]) | skip)
            have H' := Aside0.mk H
            clear H
            go_wp2_with (first | ((with_reducible refine gate_callee (f := 6) rfl ?_); refine goesL_ (some 34) rfl rfl Try.func6 (by kernel_rfl) rfl #[.float .f64 ((a1 : Int).toNat), .float .f64 ((a0 : Int).toNat)] rfl (by (try simp only [List.map_toArray, List.map_cons, List.map_nil]); first | done | rfl | (simp only [List.length_drop, List.length_take]; rfl)) ?_; (with_reducible refine (scale_Strict.calls kj3 ((a1 : Int).toNat) ((a0 : Int).toNat) t110 _ A13.out).mono ?_); rintro e w' ⟨rfl, ⟨nd, rfl⟩⟩; refine ⟨_, rfl, ?_⟩))
            go_meet
            case rel => exact ⟨_, (true), (by first | rfl | (simp; done) | (simp [*]; done)), H', ⟨by have := HJ3.out; first | omega | exact Nat.le_refl _⟩, by repeat (first | exact Drawn0.refl _ | apply Drawn0.step)⟩
        case rest =>
          clear HC12
          try clear c1
          try clear p2
          try clear c3
          try clear c6
          try clear c6b0
          try clear c6b1
          try clear p6
          try clear c9
          try clear c14
          try clear c14b0
          try clear c14b1
          try clear c15
          try clear c15b0
          try clear c16
          try clear c16b0
          try clear c17
          try clear c17b0
          try clear c18
          try clear c18b0
          try clear p2
          obtain ⟨kq, x58_11, rfl, HA, HJ11, ⟨mc11, rfl⟩⟩ := hcut
          cases kq with
          | zero => exact absurd HA.out (by simp [compasslaw02_ScaleTotal.j1])
          | succ kj11 =>
            have H := HA.out
            clear HA
            simp only [compasslaw02_ScaleTotal.j1] at H
            by_cases c20 : x58_11 = true
            · subst c20
              have H1 : (some false) = some r := by rw [if_pos rfl] at H; exact H
              clear H
              have H := H1
              clear H1
              exact absurd ((Option.some.inj H).trans HR_.out) (by decide)
            · replace c20 := Bool.eq_false_iff.mpr c20
              subst c20
              have H1 : (if (Go.FloatKind.f64.format.order ((a0 : Int).toNat) ((a0 : Int).toNat) == some .eq) = true then (if (Go.FloatKind.f64.format.order ((a1 : Int).toNat) ((a1 : Int).toNat) == some .eq) = true then ((scale_Strict.f kj11 (Go.Op.negFloat .f64 ((a1 : Int).toNat)) (Go.Op.negFloat .f64 ((a0 : Int).toNat))).bind fun t112 => (if t108 = t112 then (if ((t108 == 0) == (a0 == a1)) = true then (if t108 < 0 then (some ((Go.FloatKind.f64.format.order ((a0 : Int).toNat) ((a1 : Int).toNat) == some .lt) == (Go.FloatKind.f64.format.order ((a0 : Int).toNat) ((a1 : Int).toNat) != some .eq))) else (some ((Go.FloatKind.f64.format.order ((a0 : Int).toNat) ((a1 : Int).toNat) == some .lt) == false))) else (some false)) else (some false))) else (if (Go.FloatKind.f64.format.order ((a0 : Int).toNat) ((a0 : Int).toNat) != some .eq) = true then (some ((t108 == 0) == (Go.FloatKind.f64.format.order ((a1 : Int).toNat) ((a1 : Int).toNat) != some .eq))) else (some ((t108 == 0) == false)))) else (if (Go.FloatKind.f64.format.order ((a0 : Int).toNat) ((a0 : Int).toNat) != some .eq) = true then (some ((t108 == 0) == (Go.FloatKind.f64.format.order ((a1 : Int).toNat) ((a1 : Int).toNat) != some .eq))) else (some ((t108 == 0) == false)))) = some r := by rw [if_neg (show ¬ (false = true) by decide)] at H; exact H
              clear H
              have H := H1
              clear H1
              by_cases c21 : (Go.FloatKind.f64.format.order ((a0 : Int).toNat) ((a0 : Int).toNat) == some .eq) = true
              · rw [if_pos c21] at H
                have c21b0 : (Go.FloatKind.f64.format.order ((a0 : Int).toNat) ((a0 : Int).toNat) == some .eq) = true := c21
                (try (have c21b1 : decide (Go.FloatKind.f64.format.order ((a0 : Int).toNat) ((a0 : Int).toNat) = some .eq) = true := by simpa using c21))
                (try (have c21b2 : (Go.FloatKind.f64.format.order ((a0 : Int).toNat) ((a0 : Int).toNat) == some .eq) = true := by simpa using c21))
                clear c21
                by_cases c22 : (Go.FloatKind.f64.format.order ((a1 : Int).toNat) ((a1 : Int).toNat) == some .eq) = true
                · rw [if_pos c22] at H
                  have c22b0 : (Go.FloatKind.f64.format.order ((a1 : Int).toNat) ((a1 : Int).toNat) == some .eq) = true := c22
                  (try (have c22b1 : decide (Go.FloatKind.f64.format.order ((a1 : Int).toNat) ((a1 : Int).toNat) = some .eq) = true := by simpa using c22))
                  (try (have c22b2 : (Go.FloatKind.f64.format.order ((a1 : Int).toNat) ((a1 : Int).toNat) == some .eq) = true := by simpa using c22))
                  clear c22
                  replace H := Option.bind_eq_some_iff.mp H
                  obtain ⟨t112, A230, H⟩ := H
                  replace H : (if t108 = t112 then (if ((t108 == 0) == (a0 == a1)) = true then (if t108 < 0 then (some ((Go.FloatKind.f64.format.order ((a0 : Int).toNat) ((a1 : Int).toNat) == some .lt) == (Go.FloatKind.f64.format.order ((a0 : Int).toNat) ((a1 : Int).toNat) != some .eq))) else (some ((Go.FloatKind.f64.format.order ((a0 : Int).toNat) ((a1 : Int).toNat) == some .lt) == false))) else (some false)) else (some false)) = some r := H
                  have A23 := Aside0.mk A230
                  clear A230
                  by_cases c24 : t108 = t112
                  · rw [if_pos c24] at H
                    have c24b0 : (t108 == t112) = true := beq_iff_eq.mpr c24
                    have c24b1 : (t108 != t112) = false := bne_eq_false_iff_eq.mpr c24
                    clear c24
                    by_cases c25 : ((t108 == 0) == (a0 == a1)) = true
                    · rw [if_pos c25] at H
                      have c25b0 : ((t108 == 0) == (a0 == a1)) = true := c25
                      (try (have c25b1 : decide ((t108 == 0) = (a0 == a1)) = true := by simpa using c25))
                      (try (have c25b2 : ((t108 == 0) == (a0 == a1)) = true := by simpa using c25))
                      clear c25
                      by_cases c26 : t108 < 0
                      · rw [if_pos c26] at H
                        have c26b0 : decide (t108 < 0) = true := decide_eq_true c26
                        clear c26
                        obtain rfl := Option.some.inj H
                        go_wp2_with (first | ((with_reducible refine gate_callee (f := 6) rfl ?_); refine goesL_ (some 72) rfl rfl Try.func6 (by kernel_rfl) rfl #[.float .f64 (Go.Op.negFloat .f64 ((a1 : Int).toNat)), .float .f64 (Go.Op.negFloat .f64 ((a0 : Int).toNat))] rfl (by (try simp only [List.map_toArray, List.map_cons, List.map_nil]); first | done | rfl | (simp only [List.length_drop, List.length_take]; rfl)) ?_; (with_reducible refine (scale_Strict.calls kj11 (Go.Op.negFloat .f64 ((a1 : Int).toNat)) (Go.Op.negFloat .f64 ((a0 : Int).toNat)) t112 _ A23.out).mono ?_); rintro e w' ⟨rfl, ⟨nd, rfl⟩⟩; refine ⟨_, rfl, ?_⟩))
                        go_ret
                        exact ⟨by first | rfl | (simp; done) | (simp [*]; done), by repeat (first | exact Drawn0.refl _ | apply Drawn0.step)⟩
                      · rw [if_neg c26] at H
                        have c26b0 : decide (t108 < 0) = false := decide_eq_false c26
                        clear c26
                        obtain rfl := Option.some.inj H
                        go_wp2_with (first | ((with_reducible refine gate_callee (f := 6) rfl ?_); refine goesL_ (some 72) rfl rfl Try.func6 (by kernel_rfl) rfl #[.float .f64 (Go.Op.negFloat .f64 ((a1 : Int).toNat)), .float .f64 (Go.Op.negFloat .f64 ((a0 : Int).toNat))] rfl (by (try simp only [List.map_toArray, List.map_cons, List.map_nil]); first | done | rfl | (simp only [List.length_drop, List.length_take]; rfl)) ?_; (with_reducible refine (scale_Strict.calls kj11 (Go.Op.negFloat .f64 ((a1 : Int).toNat)) (Go.Op.negFloat .f64 ((a0 : Int).toNat)) t112 _ A23.out).mono ?_); rintro e w' ⟨rfl, ⟨nd, rfl⟩⟩; refine ⟨_, rfl, ?_⟩))
                        go_ret
                        exact ⟨by first | rfl | (simp; done) | (simp [*]; done), by repeat (first | exact Drawn0.refl _ | apply Drawn0.step)⟩
                    · rw [if_neg c25] at H
                      have c25b0 : ((t108 == 0) == (a0 == a1)) = false := by simpa using c25
                      (try (have c25b1 : decide ((t108 == 0) = (a0 == a1)) = false := by simpa using c25))
                      (try (have c25b2 : ((t108 == 0) == (a0 == a1)) = false := by simpa using c25))
                      (try (have c25b3 : ¬ ((t108 == 0) = (a0 == a1)) := by simpa using c25))
                      clear c25
                      exact absurd ((Option.some.inj H).trans HR_.out) (by decide)
                  · rw [if_neg c24] at H
                    have c24b0 : (t108 == t112) = false := beq_eq_false_iff_ne.mpr c24
                    have c24b1 : (t108 != t112) = true := bne_iff_ne.mpr c24
                    exact absurd ((Option.some.inj H).trans HR_.out) (by decide)
                · rw [if_neg c22] at H
                  have c22b0 : (Go.FloatKind.f64.format.order ((a1 : Int).toNat) ((a1 : Int).toNat) == some .eq) = false := by simpa using c22
                  (try (have c22b1 : decide (Go.FloatKind.f64.format.order ((a1 : Int).toNat) ((a1 : Int).toNat) = some .eq) = false := by simpa using c22))
                  (try (have c22b2 : (Go.FloatKind.f64.format.order ((a1 : Int).toNat) ((a1 : Int).toNat) == some .eq) = false := by simpa using c22))
                  (try (have c22b3 : ¬ (Go.FloatKind.f64.format.order ((a1 : Int).toNat) ((a1 : Int).toNat) = some .eq) := by simpa using c22))
                  clear c22
                  by_cases c27 : (Go.FloatKind.f64.format.order ((a0 : Int).toNat) ((a0 : Int).toNat) != some .eq) = true
                  · rw [if_pos c27] at H
                    have c27b0 : (Go.FloatKind.f64.format.order ((a0 : Int).toNat) ((a0 : Int).toNat) != some .eq) = true := c27
                    (try (have c27b1 : decide (Go.FloatKind.f64.format.order ((a0 : Int).toNat) ((a0 : Int).toNat) = some .eq) = false := by simpa using c27))
                    (try (have c27b2 : (Go.FloatKind.f64.format.order ((a0 : Int).toNat) ((a0 : Int).toNat) == some .eq) = false := by simpa using c27))
                    (try (have c27b3 : ¬ (Go.FloatKind.f64.format.order ((a0 : Int).toNat) ((a0 : Int).toNat) = some .eq) := by simpa using c27))
                    clear c27
                    obtain rfl := Option.some.inj H
                    go_wp2
                    go_ret
                    exact ⟨by first | rfl | (simp; done) | (simp [*]; done), by repeat (first | exact Drawn0.refl _ | apply Drawn0.step)⟩
                  · rw [if_neg c27] at H
                    have c27b0 : (Go.FloatKind.f64.format.order ((a0 : Int).toNat) ((a0 : Int).toNat) != some .eq) = false := by simpa using c27
                    (try (have c27b1 : decide (Go.FloatKind.f64.format.order ((a0 : Int).toNat) ((a0 : Int).toNat) = some .eq) = true := by simpa using c27))
                    (try (have c27b2 : (Go.FloatKind.f64.format.order ((a0 : Int).toNat) ((a0 : Int).toNat) == some .eq) = true := by simpa using c27))
                    clear c27
                    obtain rfl := Option.some.inj H
                    go_wp2
                    go_ret
                    exact ⟨by first | rfl | (simp; done) | (simp [*]; done), by repeat (first | exact Drawn0.refl _ | apply Drawn0.step)⟩
              · rw [if_neg c21] at H
                have c21b0 : (Go.FloatKind.f64.format.order ((a0 : Int).toNat) ((a0 : Int).toNat) == some .eq) = false := by simpa using c21
                (try (have c21b1 : decide (Go.FloatKind.f64.format.order ((a0 : Int).toNat) ((a0 : Int).toNat) = some .eq) = false := by simpa using c21))
                (try (have c21b2 : (Go.FloatKind.f64.format.order ((a0 : Int).toNat) ((a0 : Int).toNat) == some .eq) = false := by simpa using c21))
                (try (have c21b3 : ¬ (Go.FloatKind.f64.format.order ((a0 : Int).toNat) ((a0 : Int).toNat) = some .eq) := by simpa using c21))
                clear c21
                by_cases c28 : (Go.FloatKind.f64.format.order ((a0 : Int).toNat) ((a0 : Int).toNat) != some .eq) = true
                · rw [if_pos c28] at H
                  have c28b0 : (Go.FloatKind.f64.format.order ((a0 : Int).toNat) ((a0 : Int).toNat) != some .eq) = true := c28
                  (try (have c28b1 : decide (Go.FloatKind.f64.format.order ((a0 : Int).toNat) ((a0 : Int).toNat) = some .eq) = false := by simpa using c28))
                  (try (have c28b2 : (Go.FloatKind.f64.format.order ((a0 : Int).toNat) ((a0 : Int).toNat) == some .eq) = false := by simpa using c28))
                  (try (have c28b3 : ¬ (Go.FloatKind.f64.format.order ((a0 : Int).toNat) ((a0 : Int).toNat) = some .eq) := by simpa using c28))
                  clear c28
                  obtain rfl := Option.some.inj H
                  go_wp2
                  go_ret
                  exact ⟨by first | rfl | (simp; done) | (simp [*]; done), by repeat (first | exact Drawn0.refl _ | apply Drawn0.step)⟩
                · rw [if_neg c28] at H
                  have c28b0 : (Go.FloatKind.f64.format.order ((a0 : Int).toNat) ((a0 : Int).toNat) != some .eq) = false := by simpa using c28
                  (try (have c28b1 : decide (Go.FloatKind.f64.format.order ((a0 : Int).toNat) ((a0 : Int).toNat) = some .eq) = true := by simpa using c28))
                  (try (have c28b2 : (Go.FloatKind.f64.format.order ((a0 : Int).toNat) ((a0 : Int).toNat) == some .eq) = true := by simpa using c28))
                  clear c28
                  obtain rfl := Option.some.inj H
                  go_wp2
                  go_ret
                  exact ⟨by first | rfl | (simp; done) | (simp [*]; done), by repeat (first | exact Drawn0.refl _ | apply Drawn0.step)⟩

/-- THE ONE PURE STATEMENT of compasslaw02_ScaleTotal: yours. -/
def compasslaw02_ScaleTotal.Pure : Prop := ∀ (a0 : Int) (a1 : Int) (a2 : Int), (Lit.int .u64 a0).wf = true → (Lit.int .u64 a1).wf = true → (Lit.int .u64 a2).wf = true → ∃ k, compasslaw02_ScaleTotal.f k a0 a1 a2 = some true
theorem compasslaw02_ScaleTotal.walk (P : compasslaw02_ScaleTotal.Pure) (a0 : Int) (a1 : Int) (a2 : Int) (w : World) (w0 : (Lit.int .u64 a0).wf = true) (w1 : (Lit.int .u64 a1).wf = true) (w2 : (Lit.int .u64 a2).wf = true) :
    Calls Try.prog 3 #[.int .u64 a0, .int .u64 a1, .int .u64 a2] w fun e w' => e = .returned (.bool true) ∧ Below w.heap.size w w' := by
  obtain ⟨k, h⟩ := P a0 a1 a2 w0 w1 w2
  refine (compasslaw02_ScaleTotal.calls k a0 a1 a2 true w rfl h).mono ?_
  rintro e w' ⟨rfl, hd⟩
  exact ⟨rfl, hd.below⟩

end Go.Proofs.Ytdkhaibibpekoaa.Q
