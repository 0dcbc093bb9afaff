-- PRINTED by print.py (a twelfth state) out of the translation. Not trusted: Lean checks it.
import Derived.Test.YtdkhaibibpekoaaDoorQ0
import Derived.Test.YtdkhaibibpekoaaDoorQ6
import Derived.Test.YtdkhaibibpekoaaDoorQ14
import Derived.Test.YtdkhaibibpekoaaDoorQ15
namespace Go.Proofs.YtdkhaibibpekoaaDoor.Q
open Go.RowKit Go.Proofs.YtdkhaibibpekoaaDoorW.PrintWords Go.Proofs.YtdkhaibibpekoaaDoorW.PrintLast Go.Proofs.YtdkhaibibpekoaaDoorW.PrintMore
attribute [local go_sem] max2_int min2_int max_two min_two max_three min_three max_four min_four   -- for this text's walks alone
set_option linter.unusedVariables false
set_option linter.unusedSimpArgs false

/-! ### compassref02_Quotient: function 14 -/
def compassref02_Quotient.l0 : Nat → Int → Int → Int → Int → Int → Int → Option (Int × Int)
  | 0, _, _, _, _, _, _ => none
  | k + 1, x0, x1, x7, x8, x9, x10 => if x8 < 144115188075855872 then (if x9 ≥ (IntKind.u64.wrap (x7 - x9)) then (compassref02_Quotient.l0 k x0 x1 x7 (IntKind.u64.wrap ((IntKind.u64.wrap (x8 * 2)) + 1)) (IntKind.u64.wrap (x9 - (IntKind.u64.wrap (x7 - x9)))) (wrap64 (x10 - 1))) else (compassref02_Quotient.l0 k x0 x1 x7 (IntKind.u64.wrap (x8 * 2)) (IntKind.u64.wrap (x9 + x9)) (wrap64 (x10 - 1)))) else ((compassref02_Near.f k ((decide (x0 < 0)) != (decide (x1 < 0))) x8 x10 (decide (x9 > 0))).bind fun t258 => (some (t258, 0)))
def compassref02_Quotient.f (k : Nat) (a0 : Int) (a1 : Int) : Option (Int × Int) := if a1 = 0 then (some (0, 11)) else ((compassref02_size.f a0).bind fun t256 => ((compassref02_size.f a1).bind fun t257 => (if t256 = 0 then (some (0, 0)) else (if t257 = 0 then (none) else (compassref02_Quotient.l0 k a0 a1 t257 (IntKind.u64.wrap (Int.tdiv t256 t257)) (Int.tmod t256 t257) 0)))))
theorem compassref02_Quotient.mono_l : ∀ k, (∀ y0 y1 y2 y3 y4 y5, LeO (compassref02_Quotient.l0 k y0 y1 y2 y3 y4 y5) (compassref02_Quotient.l0 (k + 1) y0 y1 y2 y3 y4 y5))
  | 0 => fun _ _ _ _ _ _ r h => by simp [compassref02_Quotient.l0] at h
  | k + 1 => by
    have ih0 := compassref02_Quotient.mono_l k
    · intro y0 y1 y2 y3 y4 y5
      unfold compassref02_Quotient.l0
      repeat' first
      | (with_reducible exact ih0 _ _ _ _ _ _)
      | (with_reducible exact compassref02_Near.mono _ _ _ _ _)
      | (with_reducible exact LeO.refl _)
      | (with_reducible exact LeO.none _)
      | (with_reducible refine LeO.ite ?_ ?_)
      | (with_reducible refine LeO.bind ?_ (fun _ => ?_))
      | exact ih0 _ _ _ _ _ _
      | exact compassref02_Near.mono _ _ _ _ _
      | exact LeO.none _
      | refine LeO.ite ?_ ?_
      | refine LeO.bind ?_ (fun _ => ?_)
theorem compassref02_Quotient.mono : ∀ a0 a1 k, LeO (compassref02_Quotient.f k a0 a1) (compassref02_Quotient.f (k + 1) a0 a1) := by
  intro a0 a1 k
  have ih0 := compassref02_Quotient.mono_l k
  unfold compassref02_Quotient.f
  repeat' first
      | (with_reducible exact ih0 _ _ _ _ _ _)
      | (with_reducible exact compassref02_Near.mono _ _ _ _ _)
      | (with_reducible exact LeO.refl _)
      | (with_reducible exact LeO.none _)
      | (with_reducible refine LeO.ite ?_ ?_)
      | (with_reducible refine LeO.bind ?_ (fun _ => ?_))
      | exact ih0 _ _ _ _ _ _
      | exact compassref02_Near.mono _ _ _ _ _
      | exact LeO.none _
      | refine LeO.ite ?_ ?_
      | refine LeO.bind ?_ (fun _ => ?_)
set_option maxHeartbeats 8000000 in
set_option maxRecDepth 100000 in
theorem compassref02_Quotient.calls (k : Nat) (a0 : Int) (a1 : Int) (r1 : Int) (r2 : Int) (w : World) (h : compassref02_Quotient.f k a0 a1 = some (r1, r2)) :
    Calls Tryd.prog 14 #[.int .i64 a0, .int .i64 a1] w fun e w' => e = .returned (.tuple #[.int .u64 r1, .int .i64 r2]) ∧ Drawn0 w w' := by
  have H : (if a1 = 0 then (some (0, 11)) else ((compassref02_size.f a0).bind fun t256 => ((compassref02_size.f a1).bind fun t257 => (if t256 = 0 then (some (0, 0)) else (if t257 = 0 then (none) else (compassref02_Quotient.l0 k a0 a1 t257 (IntKind.u64.wrap (Int.tdiv t256 t257)) (Int.tmod t256 t257) 0)))))) = some (r1, r2) := h
  clear h
  by_cases c3 : a1 = 0
  · rw [if_pos c3] at H
    have c3b0 : (a1 == 0) = true := beq_iff_eq.mpr c3
    have c3b1 : (a1 != 0) = false := bne_eq_false_iff_eq.mpr c3
    clear c3
    simp only [Option.some.injEq, Prod.mk.injEq] at H
    obtain ⟨rfl, rfl⟩ := H
    go_enter Tryd.func14, Tryd.ntmps14
    go_wp2
    go_ret2
    exact ⟨by first | rfl | (simp; done) | (simp [*]; done), by repeat (first | exact Drawn0.refl _ | apply Drawn0.step)⟩
  · rw [if_neg c3] at H
    have c3b0 : (a1 == 0) = false := beq_eq_false_iff_ne.mpr c3
    have c3b1 : (a1 != 0) = true := bne_iff_ne.mpr c3
    replace H := Option.bind_eq_some_iff.mp H
    obtain ⟨t256, A40, H⟩ := H
    replace H : ((compassref02_size.f a1).bind fun t257 => (if t256 = 0 then (some (0, 0)) else (if t257 = 0 then (none) else (compassref02_Quotient.l0 k a0 a1 t257 (IntKind.u64.wrap (Int.tdiv t256 t257)) (Int.tmod t256 t257) 0)))) = some (r1, r2) := H
    have A4 := Aside0.mk A40
    clear A40
    replace H := Option.bind_eq_some_iff.mp H
    obtain ⟨t257, A50, H⟩ := H
    replace H : (if t256 = 0 then (some (0, 0)) else (if t257 = 0 then (none) else (compassref02_Quotient.l0 k a0 a1 t257 (IntKind.u64.wrap (Int.tdiv t256 t257)) (Int.tmod t256 t257) 0))) = some (r1, r2) := H
    have A5 := Aside0.mk A50
    clear A50
    by_cases c6 : t256 = 0
    · rw [if_pos c6] at H
      have c6b0 : (t256 == 0) = true := beq_iff_eq.mpr c6
      have c6b1 : (t256 != 0) = false := bne_eq_false_iff_eq.mpr c6
      clear c6
      simp only [Option.some.injEq, Prod.mk.injEq] at H
      obtain ⟨rfl, rfl⟩ := H
      go_enter Tryd.func14, Tryd.ntmps14
      go_wp2_with (first | ((with_reducible refine gate_callee (f := 30) rfl ?_); refine goesL_ (some 14) rfl rfl Tryd.func30 (by kernel_rfl) rfl #[.int .i64 a0] rfl (by (try simp only [List.map_toArray, List.map_cons, List.map_nil]); first | done | rfl | (simp only [List.length_drop, List.length_take]; rfl)) ?_; (with_reducible refine (compassref02_size.calls a0 t256 _ A4.out).mono ?_); rintro e w' ⟨rfl, ⟨nd, rfl⟩⟩; refine ⟨_, rfl, ?_⟩) | ((with_reducible refine gate_callee (f := 30) rfl ?_); refine goesL_ (some 16) rfl rfl Tryd.func30 (by kernel_rfl) rfl #[.int .i64 a1] rfl (by (try simp only [List.map_toArray, List.map_cons, List.map_nil]); first | done | rfl | (simp only [List.length_drop, List.length_take]; rfl)) ?_; (with_reducible refine (compassref02_size.calls a1 t257 _ A5.out).mono ?_); rintro e w' ⟨rfl, ⟨nd, rfl⟩⟩; refine ⟨_, rfl, ?_⟩))
      go_ret2
      exact ⟨by first | rfl | (simp; done) | (simp [*]; done), by repeat (first | exact Drawn0.refl _ | apply Drawn0.step)⟩
    · rw [if_neg c6] at H
      have c6b0 : (t256 == 0) = false := beq_eq_false_iff_ne.mpr c6
      have c6b1 : (t256 != 0) = true := bne_iff_ne.mpr c6
      by_cases c7 : t257 = 0
      · rw [if_pos c7] at H
        exact absurd H (by simp)
      · rw [if_neg c7] at H
        have c7b0 : (t257 == 0) = false := beq_eq_false_iff_ne.mpr c7
        have c7b1 : (t257 != 0) = true := bne_iff_ne.mpr c7
        have H' := Aside0.mk H
        clear H
        go_enter Tryd.func14, Tryd.ntmps14
        go_wp2_with (first | ((with_reducible refine gate_callee (f := 30) rfl ?_); refine goesL_ (some 14) rfl rfl Tryd.func30 (by kernel_rfl) rfl #[.int .i64 a0] rfl (by (try simp only [List.map_toArray, List.map_cons, List.map_nil]); first | done | rfl | (simp only [List.length_drop, List.length_take]; rfl)) ?_; (with_reducible refine (compassref02_size.calls a0 t256 _ A4.out).mono ?_); rintro e w' ⟨rfl, ⟨nd, rfl⟩⟩; refine ⟨_, rfl, ?_⟩) | ((with_reducible refine gate_callee (f := 30) rfl ?_); refine goesL_ (some 16) rfl rfl Tryd.func30 (by kernel_rfl) rfl #[.int .i64 a1] rfl (by (try simp only [List.map_toArray, List.map_cons, List.map_nil]); first | done | rfl | (simp only [List.length_drop, List.length_take]; rfl)) ?_; (with_reducible refine (compassref02_size.calls a1 t257 _ A5.out).mono ?_); rintro e w' ⟨rfl, ⟨nd, rfl⟩⟩; refine ⟨_, rfl, ?_⟩))
        go_loopg [8, 9, 10] k (fun kq v8 v9 v10 w' => ∃ (x8_1 : Int) (x9_1 : Int) (x10_1 : Int), v8 = .int .u64 x8_1 ∧ v9 = .int .u64 x9_1 ∧ v10 = .int .i64 x10_1 ∧ Aside0 (compassref02_Quotient.l0 kq a0 a1 t257 x8_1 x9_1 x10_1 = some (r1, r2)) ∧ Aside0 (kq ≤ k) ∧ Drawn0 w w')
        case atStart => exact ⟨(IntKind.u64.wrap (Int.tdiv t256 t257)), (Int.tmod t256 t257), (0), (by first | rfl | (simp; done) | (simp [*]; done)), (by first | rfl | (simp; done) | (simp [*]; done)), (by first | rfl | (simp; done) | (simp [*]; done)), H', ⟨Nat.le_refl _⟩, by repeat (first | exact Drawn0.refl _ | apply Drawn0.step)⟩
        case round =>
          clear H'
          try clear c1
          try clear p2
          try clear c3
          try clear c3b0
          try clear c3b1
          try clear c6
          try clear c6b0
          try clear c6b1
          try clear c7
          try clear c7b0
          try clear c7b1
          obtain ⟨x8_1, x9_1, x10_1, rfl, rfl, rfl, HA, HK1, ⟨m1, rfl⟩⟩ := hrel
          cases gk with
          | zero => exact absurd HA.out (by simp [compassref02_Quotient.l0])
          | succ k1 =>
            have H := HA.out
            clear HA
            simp only [compassref02_Quotient.l0] at H
            by_cases c8 : x8_1 < 144115188075855872
            · rw [if_pos c8] at H
              have c8b0 : decide (x8_1 < 144115188075855872) = true := decide_eq_true c8
              clear c8
              by_cases c9 : x9_1 ≥ (IntKind.u64.wrap (t257 - x9_1))
              · rw [if_pos c9] at H
                have c9b0 : decide ((IntKind.u64.wrap (t257 - x9_1)) ≤ x9_1) = true := decide_eq_true c9
                clear c9
                have H' := Aside0.mk H
                clear H
                go_wp2
                go_roundg k1
                case measure => have := HK1.out; omega
                case rel => exact ⟨(IntKind.u64.wrap ((IntKind.u64.wrap (x8_1 * 2)) + 1)), (IntKind.u64.wrap (x9_1 - (IntKind.u64.wrap (t257 - x9_1)))), (wrap64 (x10_1 - 1)), (by first | rfl | (simp; done) | (simp [*]; done)), (by first | rfl | (simp; done) | (simp [*]; done)), (by first | rfl | (simp; done) | (simp [*]; done)), H', ⟨by have := HK1.out; omega⟩, by repeat (first | exact Drawn0.refl _ | apply Drawn0.step)⟩
              · rw [if_neg c9] at H
                have c9b0 : decide ((IntKind.u64.wrap (t257 - x9_1)) ≤ x9_1) = false := decide_eq_false c9
                clear c9
                have H' := Aside0.mk H
                clear H
                go_wp2
                go_roundg k1
                case measure => have := HK1.out; omega
                case rel => exact ⟨(IntKind.u64.wrap (x8_1 * 2)), (IntKind.u64.wrap (x9_1 + x9_1)), (wrap64 (x10_1 - 1)), (by first | rfl | (simp; done) | (simp [*]; done)), (by first | rfl | (simp; done) | (simp [*]; done)), (by first | rfl | (simp; done) | (simp [*]; done)), H', ⟨by have := HK1.out; omega⟩, by repeat (first | exact Drawn0.refl _ | apply Drawn0.step)⟩
            · rw [if_neg c8] at H
              have c8b0 : decide (x8_1 < 144115188075855872) = false := decide_eq_false c8
              clear c8
              replace H := Option.bind_eq_some_iff.mp H
              obtain ⟨t258, A100, H⟩ := H
              replace H : (some (t258, 0)) = some (r1, r2) := H
              have A10 := Aside0.mk A100
              clear A100
              simp only [Option.some.injEq, Prod.mk.injEq] at H
              obtain ⟨rfl, rfl⟩ := H
              go_wp2_with (first | ((with_reducible refine gate_callee (f := 31) rfl ?_); refine goesL_ (some 55) rfl rfl Tryd.func31 (by kernel_rfl) rfl #[.bool ((decide (a0 < 0)) != (decide (a1 < 0))), .int .u64 x8_1, .int .i64 x10_1, .bool (decide (x9_1 > 0))] rfl (by (try simp only [List.map_toArray, List.map_cons, List.map_nil]); first | done | rfl | (simp only [List.length_drop, List.length_take]; rfl)) ?_; (with_reducible refine (compassref02_Near.calls k1 ((decide (a0 < 0)) != (decide (a1 < 0))) x8_1 x10_1 (decide (x9_1 > 0)) t258 _ A10.out).mono ?_); rintro e w' ⟨rfl, ⟨nd, rfl⟩⟩; refine ⟨_, rfl, ?_⟩))
              go_ret2
              exact ⟨by first | rfl | (simp; done) | (simp [*]; done), by repeat (first | exact Drawn0.refl _ | apply Drawn0.step)⟩

/-! ### compassref02_Back: function 16 -/
def compassref02_Back.f (k : Nat) (a0 : Int) (a1 : Int) : Option (Int) := (compassref02_size.f a0).bind fun t259 => ((compassref02_Near.f k (decide (a0 < 0)) t259 a1 false).bind fun t260 => (some t260))
theorem compassref02_Back.mono : ∀ a0 a1 k, LeO (compassref02_Back.f k a0 a1) (compassref02_Back.f (k + 1) a0 a1) := by
  intro a0 a1 k
  unfold compassref02_Back.f
  repeat' first
      | (with_reducible exact compassref02_Near.mono _ _ _ _ _)
      | (with_reducible exact LeO.refl _)
      | (with_reducible exact LeO.none _)
      | (with_reducible refine LeO.ite ?_ ?_)
      | (with_reducible refine LeO.bind ?_ (fun _ => ?_))
      | exact compassref02_Near.mono _ _ _ _ _
      | exact LeO.none _
      | refine LeO.ite ?_ ?_
      | refine LeO.bind ?_ (fun _ => ?_)
set_option maxHeartbeats 8000000 in
set_option maxRecDepth 100000 in
theorem compassref02_Back.calls (k : Nat) (a0 : Int) (a1 : Int) (r : Int) (w : World) (h : compassref02_Back.f k a0 a1 = some r) :
    Calls Tryd.prog 16 #[.int .i64 a0, .int .i64 a1] w fun e w' => e = .returned (.int .u64 r) ∧ Drawn0 w w' := by
  have H : ((compassref02_size.f a0).bind fun t259 => ((compassref02_Near.f k (decide (a0 < 0)) t259 a1 false).bind fun t260 => (some t260))) = some r := h
  clear h
  replace H := Option.bind_eq_some_iff.mp H
  obtain ⟨t259, A30, H⟩ := H
  replace H : ((compassref02_Near.f k (decide (a0 < 0)) t259 a1 false).bind fun t260 => (some t260)) = some r := H
  have A3 := Aside0.mk A30
  clear A30
  replace H := Option.bind_eq_some_iff.mp H
  obtain ⟨t260, A40, H⟩ := H
  replace H : (some t260) = some r := H
  have A4 := Aside0.mk A40
  clear A40
  obtain rfl := Option.some.inj H
  go_enter Tryd.func16, Tryd.ntmps16
  go_wp2_with (first | ((with_reducible refine gate_callee (f := 30) rfl ?_); refine goesL_ (some 8) rfl rfl Tryd.func30 (by kernel_rfl) rfl #[.int .i64 a0] rfl (by (try simp only [List.map_toArray, List.map_cons, List.map_nil]); first | done | rfl | (simp only [List.length_drop, List.length_take]; rfl)) ?_; (with_reducible refine (compassref02_size.calls a0 t259 _ A3.out).mono ?_); rintro e w' ⟨rfl, ⟨nd, rfl⟩⟩; refine ⟨_, rfl, ?_⟩) | ((with_reducible refine gate_callee (f := 31) rfl ?_); refine goesL_ (some 10) rfl rfl Tryd.func31 (by kernel_rfl) rfl #[.bool (decide (a0 < 0)), .int .u64 t259, .int .i64 a1, .bool false] rfl (by (try simp only [List.map_toArray, List.map_cons, List.map_nil]); first | done | rfl | (simp only [List.length_drop, List.length_take]; rfl)) ?_; (with_reducible refine (compassref02_Near.calls k (decide (a0 < 0)) t259 a1 false t260 _ A4.out).mono ?_); rintro e w' ⟨rfl, ⟨nd, rfl⟩⟩; refine ⟨_, rfl, ?_⟩))
  go_ret
  exact ⟨by first | rfl | (simp; done) | (simp [*]; done), by repeat (first | exact Drawn0.refl _ | apply Drawn0.step)⟩

/-! ### compasslaw02_ScaleBacks: function 6 -/
def compasslaw02_ScaleBacks.j0 : Nat → Int → Int → Int → Bool → Option (Bool)
  | 0, _, _, _, _ => none
  | k + 1, x0, x1, x2, x26 => if x26 = true then (some false) else ((scale_Quotient.f k x0 x1).bind fun bt264 => ((compassref02_Quotient.f k x0 x1).bind fun bt266 => ((scale_Back.f k x0 x2).bind fun t268 => ((compassref02_Back.f k x0 x2).bind fun t269 => (if ((t268 : Nat) : Int) = t269 then (if ((bt264.1 : Nat) : Int) = bt266.1 then (some (bt264.2 == bt266.2)) else (some false)) else (some false))))))
def compasslaw02_ScaleBacks.f (k : Nat) (a0 : Int) (a1 : Int) (a2 : Int) : Option (Bool) := (scale_Quotient.f k 1 4).bind fun bt261 => (if (Go.FloatKind.f64.format.order bt261.1 4598175219545276416 != some .eq) = true then (compasslaw02_ScaleBacks.j0 k a0 a1 a2 true) else (if bt261.2 = 0 then ((compasslaw02_awake.f k).bind fun t263 => (compasslaw02_ScaleBacks.j0 k a0 a1 a2 (!t263))) else (compasslaw02_ScaleBacks.j0 k a0 a1 a2 true)))
theorem compasslaw02_ScaleBacks.mono_l : ∀ k, (∀ y0 y1 y2 y3, LeO (compasslaw02_ScaleBacks.j0 k y0 y1 y2 y3) (compasslaw02_ScaleBacks.j0 (k + 1) y0 y1 y2 y3))
  | 0 => fun _ _ _ _ r h => by simp [compasslaw02_ScaleBacks.j0] at h
  | k + 1 => by
    have ih0 := compasslaw02_ScaleBacks.mono_l k
    · intro y0 y1 y2 y3
      unfold compasslaw02_ScaleBacks.j0
      repeat' first
      | (with_reducible exact ih0 _ _ _ _)
      | (with_reducible exact compasslaw02_awake.mono _)
      | (with_reducible exact compassref02_Back.mono _ _ _)
      | (with_reducible exact compassref02_Quotient.mono _ _ _)
      | (with_reducible exact scale_Back.mono _ _ _)
      | (with_reducible exact scale_Quotient.mono _ _ _)
      | (with_reducible exact LeO.refl _)
      | (with_reducible exact LeO.none _)
      | (with_reducible refine LeO.ite ?_ ?_)
      | (with_reducible refine LeO.bind ?_ (fun _ => ?_))
      | exact ih0 _ _ _ _
      | exact compasslaw02_awake.mono _
      | exact compassref02_Back.mono _ _ _
      | exact compassref02_Quotient.mono _ _ _
      | exact scale_Back.mono _ _ _
      | exact scale_Quotient.mono _ _ _
      | exact LeO.none _
      | refine LeO.ite ?_ ?_
      | refine LeO.bind ?_ (fun _ => ?_)
theorem compasslaw02_ScaleBacks.mono : ∀ a0 a1 a2 k, LeO (compasslaw02_ScaleBacks.f k a0 a1 a2) (compasslaw02_ScaleBacks.f (k + 1) a0 a1 a2) := by
  intro a0 a1 a2 k
  have ih0 := compasslaw02_ScaleBacks.mono_l k
  unfold compasslaw02_ScaleBacks.f
  repeat' first
      | (with_reducible exact ih0 _ _ _ _)
      | (with_reducible exact compasslaw02_awake.mono _)
      | (with_reducible exact compassref02_Back.mono _ _ _)
      | (with_reducible exact compassref02_Quotient.mono _ _ _)
      | (with_reducible exact scale_Back.mono _ _ _)
      | (with_reducible exact scale_Quotient.mono _ _ _)
      | (with_reducible exact LeO.refl _)
      | (with_reducible exact LeO.none _)
      | (with_reducible refine LeO.ite ?_ ?_)
      | (with_reducible refine LeO.bind ?_ (fun _ => ?_))
      | exact ih0 _ _ _ _
      | exact compasslaw02_awake.mono _
      | exact compassref02_Back.mono _ _ _
      | exact compassref02_Quotient.mono _ _ _
      | exact scale_Back.mono _ _ _
      | exact scale_Quotient.mono _ _ _
      | exact LeO.none _
      | refine LeO.ite ?_ ?_
      | refine LeO.bind ?_ (fun _ => ?_)
set_option maxHeartbeats 8000000 in
set_option maxRecDepth 100000 in
theorem compasslaw02_ScaleBacks.calls (k : Nat) (a0 : Int) (a1 : Int) (a2 : Int) (r : Bool) (w : World) (hr_ : r = true) (h : compasslaw02_ScaleBacks.f k a0 a1 a2 = some r) (hL : Laid w := by first | exact HL.out | exact Laid.drewN HL.out _ | exact Laid.below HL.out (by repeat (first | (with_reducible first | exact HB.out | apply below_alloc | apply pw_below_drewN | apply below_drew1) | exact HB.out | exact Below.refl _ _))) :
    Calls Tryd.prog 6 #[.int .i64 a0, .int .i64 a1, .int .i64 a2] w fun e w' => e = .returned (.bool r) ∧ Below w.heap.size w w' := by
  have HL := Aside0.mk hL
  clear hL
  have hx15 := @fbits_law
  have HB := Aside0.mk (Below.refl w.heap.size w)
  have HR_ := Aside0.mk hr_
  clear hr_
  have H : ((scale_Quotient.f k 1 4).bind fun bt261 => (if (Go.FloatKind.f64.format.order bt261.1 4598175219545276416 != some .eq) = true then (compasslaw02_ScaleBacks.j0 k a0 a1 a2 true) else (if bt261.2 = 0 then ((compasslaw02_awake.f k).bind fun t263 => (compasslaw02_ScaleBacks.j0 k a0 a1 a2 (!t263))) else (compasslaw02_ScaleBacks.j0 k a0 a1 a2 true)))) = some r := h
  clear h
  replace H := Option.bind_eq_some_iff.mp H
  obtain ⟨⟨t261, t262⟩, A40, H⟩ := H
  replace H : (if (Go.FloatKind.f64.format.order t261 4598175219545276416 != some .eq) = true then (compasslaw02_ScaleBacks.j0 k a0 a1 a2 true) else (if t262 = 0 then ((compasslaw02_awake.f k).bind fun t263 => (compasslaw02_ScaleBacks.j0 k a0 a1 a2 (!t263))) else (compasslaw02_ScaleBacks.j0 k a0 a1 a2 true))) = some r := H
  have A4 := Aside0.mk A40
  clear A40
  have HC5 := Aside0.mk H
  clear H
  go_enter Tryd.func6, Tryd.ntmps6
  go_upto_region 2 with (first | ((with_reducible refine gate_callee (f := 13) rfl ?_); refine goesL_ (some 14) rfl rfl Tryd.func13 (by kernel_rfl) rfl #[.int .i64 1, .int .i64 4] rfl (by (try simp only [List.map_toArray, List.map_cons, List.map_nil]); first | done | rfl | (simp only [List.length_drop, List.length_take]; rfl)) ?_; (with_reducible refine (scale_Quotient.calls k 1 4 t261 t262 _ A4.out).mono ?_); rintro e w6 ⟨rfl, hb⟩; refine ⟨_, rfl, ?_⟩; have n0_ := Aside0.mk (below_step (by repeat (first | (with_reducible first | exact HB.out | apply below_alloc | apply pw_below_drewN | apply below_drew1) | exact HB.out)) hb); clear HB; have HB := n0_; clear n0_; (try clear hb); (try clear hb2); (try clear hk); (try clear hi)))
  (try simp only [Act.put, List.setIfInBounds_toArray, List.set_cons_zero, List.set_cons_succ])
  go_cut [26] (fun v26 wc => ∃ (kq : Nat) (x26_4 : Bool), v26 = .bool x26_4 ∧ Aside0 (compasslaw02_ScaleBacks.j0 kq a0 a1 a2 x26_4 = some r) ∧ Aside0 (kq ≤ k) ∧ Aside0 (Below w.heap.size w wc))
  case first =>
    have H := HC5.out
    clear HC5
    by_cases c7 : (Go.FloatKind.f64.format.order t261 4598175219545276416 != some .eq) = true
    · rw [if_pos c7] at H
      have c7b0 : (Go.FloatKind.f64.format.order t261 4598175219545276416 != some .eq) = true := c7
      (try (have c7b1 : decide (Go.FloatKind.f64.format.order t261 4598175219545276416 = some .eq) = false := by simpa using c7))
      (try (have c7b2 : (Go.FloatKind.f64.format.order t261 4598175219545276416 == some .eq) = false := by simpa using c7))
      (try (have c7b3 : ¬ (Go.FloatKind.f64.format.order t261 4598175219545276416 = some .eq) := by simpa using c7))
      clear c7
      (first | rw [c7b0] | (simp only [i64_w, i32_w]; rw [c7b0]) | skip)
      have H' := Aside0.mk H
      clear H
      go_wp2
      go_meet
      case rel => exact ⟨_, (true), (by first | rfl | (simp; done) | (simp [*]; done)), H', ⟨by first | omega | exact Nat.le_refl _⟩, ⟨by repeat (first | (with_reducible first | exact HB.out | apply below_alloc | apply pw_below_drewN | apply below_drew1) | exact HB.out)⟩⟩
    · rw [if_neg c7] at H
      have c7b0 : (Go.FloatKind.f64.format.order t261 4598175219545276416 != some .eq) = false := by simpa using c7
      (try (have c7b1 : decide (Go.FloatKind.f64.format.order t261 4598175219545276416 = some .eq) = true := by simpa using c7))
      (try (have c7b2 : (Go.FloatKind.f64.format.order t261 4598175219545276416 == some .eq) = true := by simpa using c7))
      clear c7
      (first | rw [c7b0] | (simp only [i64_w, i32_w]; rw [c7b0]) | skip)
      by_cases c8 : t262 = 0
      · rw [if_pos c8] at H
        have c8b0 : (t262 == 0) = true := beq_iff_eq.mpr c8
        have c8b1 : (t262 != 0) = false := bne_eq_false_iff_eq.mpr c8
        clear c8
        replace H := Option.bind_eq_some_iff.mp H
        obtain ⟨t263, A90, H⟩ := H
        replace H : (compasslaw02_ScaleBacks.j0 k a0 a1 a2 (!t263)) = some r := H
        have A9 := Aside0.mk A90
        clear A90
        have H' := Aside0.mk H
        clear H
        go_wp2_with (first | (go_at_call 7; (with_reducible refine (compasslaw02_awake.calls k  t263 _ A9.out).mono ?_); rintro e w10 ⟨rfl, hb⟩; have n0_ := Aside0.mk (below_step (by repeat (first | (with_reducible first | exact HB.out | apply below_alloc | apply pw_below_drewN | apply below_drew1) | exact HB.out)) hb); clear HB; have HB := n0_; clear n0_; (try clear hb); (try clear hb2); (try clear hk); (try clear hi)))
        go_meet
        case rel => exact ⟨_, (!t263), (by first | rfl | (simp; done) | (simp [*]; done)), H', ⟨by first | omega | exact Nat.le_refl _⟩, ⟨by repeat (first | (with_reducible first | exact HB.out | apply below_alloc | apply pw_below_drewN | apply below_drew1) | exact HB.out)⟩⟩
      · rw [if_neg c8] at H
        have c8b0 : (t262 == 0) = false := beq_eq_false_iff_ne.mpr c8
        have c8b1 : (t262 != 0) = true := bne_iff_ne.mpr c8
        have H' := Aside0.mk H
        clear H
        go_wp2
        go_meet
        case rel => exact ⟨_, (true), (by first | rfl | (simp; done) | (simp [*]; done)), H', ⟨by first | omega | exact Nat.le_refl _⟩, ⟨by repeat (first | (with_reducible first | exact HB.out | apply below_alloc | apply pw_below_drewN | apply below_drew1) | exact HB.out)⟩⟩
  case rest =>
    clear HC5
    try clear c1
    try clear p2
    try clear c6
    try clear c7
    try clear c7b0
    try clear c7b1
    try clear c7b2
    try clear c8
    try clear c8b0
    try clear c8b1
    obtain ⟨kq, x26_4, rfl, HA, HJ4, HB⟩ := hcut
    cases kq with
    | zero => exact absurd HA.out (by simp [compasslaw02_ScaleBacks.j0])
    | succ kj4 =>
      have H := HA.out
      clear HA
      simp only [compasslaw02_ScaleBacks.j0] at H
      by_cases c11 : x26_4 = true
      · subst c11
        have H1 : (some false) = some r := by rw [if_pos rfl] at H; exact H
        clear H
        have H := H1
        clear H1
        exact absurd ((Option.some.inj H).trans HR_.out) (by decide)
      · replace c11 := Bool.eq_false_iff.mpr c11
        subst c11
        have H1 : ((scale_Quotient.f kj4 a0 a1).bind fun bt264 => ((compassref02_Quotient.f kj4 a0 a1).bind fun bt266 => ((scale_Back.f kj4 a0 a2).bind fun t268 => ((compassref02_Back.f kj4 a0 a2).bind fun t269 => (if ((t268 : Nat) : Int) = t269 then (if ((bt264.1 : Nat) : Int) = bt266.1 then (some (bt264.2 == bt266.2)) else (some false)) else (some false)))))) = some r := by rw [if_neg (show ¬ (false = true) by decide)] at H; exact H
        clear H
        have H := H1
        clear H1
        replace H := Option.bind_eq_some_iff.mp H
        obtain ⟨⟨t264, t265⟩, A120, H⟩ := H
        replace H : ((compassref02_Quotient.f kj4 a0 a1).bind fun bt266 => ((scale_Back.f kj4 a0 a2).bind fun t268 => ((compassref02_Back.f kj4 a0 a2).bind fun t269 => (if ((t268 : Nat) : Int) = t269 then (if ((t264 : Nat) : Int) = bt266.1 then (some (t265 == bt266.2)) else (some false)) else (some false))))) = some r := H
        have A12 := Aside0.mk A120
        clear A120
        replace H := Option.bind_eq_some_iff.mp H
        obtain ⟨⟨t266, t267⟩, A130, H⟩ := H
        replace H : ((scale_Back.f kj4 a0 a2).bind fun t268 => ((compassref02_Back.f kj4 a0 a2).bind fun t269 => (if ((t268 : Nat) : Int) = t269 then (if ((t264 : Nat) : Int) = t266 then (some (t265 == t267)) else (some false)) else (some false)))) = some r := H
        have A13 := Aside0.mk A130
        clear A130
        replace H := Option.bind_eq_some_iff.mp H
        obtain ⟨t268, A140, H⟩ := H
        replace H : ((compassref02_Back.f kj4 a0 a2).bind fun t269 => (if ((t268 : Nat) : Int) = t269 then (if ((t264 : Nat) : Int) = t266 then (some (t265 == t267)) else (some false)) else (some false))) = some r := H
        have A14 := Aside0.mk A140
        clear A140
        replace H := Option.bind_eq_some_iff.mp H
        obtain ⟨t269, A150, H⟩ := H
        replace H : (if ((t268 : Nat) : Int) = t269 then (if ((t264 : Nat) : Int) = t266 then (some (t265 == t267)) else (some false)) else (some false)) = some r := H
        have A15 := Aside0.mk A150
        clear A150
        by_cases c16 : ((t268 : Nat) : Int) = t269
        · rw [if_pos c16] at H
          have c16b0 : (((t268 : Nat) : Int) == t269) = true := beq_iff_eq.mpr c16
          have c16b1 : (((t268 : Nat) : Int) != t269) = false := bne_eq_false_iff_eq.mpr c16
          clear c16
          by_cases c17 : ((t264 : Nat) : Int) = t266
          · rw [if_pos c17] at H
            have c17b0 : (((t264 : Nat) : Int) == t266) = true := beq_iff_eq.mpr c17
            have c17b1 : (((t264 : Nat) : Int) != t266) = false := bne_eq_false_iff_eq.mpr c17
            clear c17
            obtain rfl := Option.some.inj H
            go_wp2_with (first | ((with_reducible refine gate_callee (f := 13) rfl ?_); refine goesL_ (some 30) rfl rfl Tryd.func13 (by kernel_rfl) rfl #[.int .i64 a0, .int .i64 a1] rfl (by (try simp only [List.map_toArray, List.map_cons, List.map_nil]); first | done | rfl | (simp only [List.length_drop, List.length_take]; rfl)) ?_; (with_reducible refine (scale_Quotient.calls kj4 a0 a1 t264 t265 _ A12.out).mono ?_); rintro e w18 ⟨rfl, hb⟩; refine ⟨_, rfl, ?_⟩; have n0_ := Aside0.mk (below_step (by repeat (first | (with_reducible first | exact HB.out | apply below_alloc | apply pw_below_drewN | apply below_drew1) | exact HB.out)) hb); clear HB; have HB := n0_; clear n0_; (try clear hb); (try clear hb2); (try clear hk); (try clear hi)) | ((with_reducible refine gate_callee (f := 14) rfl ?_); refine goesL_ (some 36) rfl rfl Tryd.func14 (by kernel_rfl) rfl #[.int .i64 a0, .int .i64 a1] rfl (by (try simp only [List.map_toArray, List.map_cons, List.map_nil]); first | done | rfl | (simp only [List.length_drop, List.length_take]; rfl)) ?_; (with_reducible refine (compassref02_Quotient.calls kj4 a0 a1 t266 t267 _ A13.out).mono ?_); rintro e w' ⟨rfl, ⟨nd, rfl⟩⟩; refine ⟨_, rfl, ?_⟩) | ((with_reducible refine gate_callee (f := 11) rfl ?_); refine goesL_ (some 41) rfl rfl Tryd.func11 (by kernel_rfl) rfl #[.int .i64 a0, .int .i64 a2] rfl (by (try simp only [List.map_toArray, List.map_cons, List.map_nil]); first | done | rfl | (simp only [List.length_drop, List.length_take]; rfl)) ?_; (with_reducible refine (scale_Back.calls kj4 a0 a2 t268 _ A14.out).mono ?_); rintro e w19 ⟨rfl, hb⟩; refine ⟨_, rfl, ?_⟩; have n0_ := Aside0.mk (below_step (by repeat (first | (with_reducible first | exact HB.out | apply below_alloc | apply pw_below_drewN | apply below_drew1) | exact HB.out)) hb); clear HB; have HB := n0_; clear n0_; (try clear hb); (try clear hb2); (try clear hk); (try clear hi)) | ((with_reducible refine gate_callee (f := 16) rfl ?_); refine goesL_ (some 45) rfl rfl Tryd.func16 (by kernel_rfl) rfl #[.int .i64 a0, .int .i64 a2] rfl (by (try simp only [List.map_toArray, List.map_cons, List.map_nil]); first | done | rfl | (simp only [List.length_drop, List.length_take]; rfl)) ?_; (with_reducible refine (compassref02_Back.calls kj4 a0 a2 t269 _ A15.out).mono ?_); rintro e w' ⟨rfl, ⟨nd, rfl⟩⟩; refine ⟨_, rfl, ?_⟩))
            go_ret
            exact ⟨by first | rfl | (simp [errW_none, errW_some] <;> rfl) | (simp [*, errW_none, errW_some] <;> rfl), by repeat (first | (with_reducible first | exact HB.out | apply below_alloc | apply pw_below_drewN | apply below_drew1) | exact HB.out)⟩
          · rw [if_neg c17] at H
            have c17b0 : (((t264 : Nat) : Int) == t266) = false := beq_eq_false_iff_ne.mpr c17
            have c17b1 : (((t264 : Nat) : Int) != t266) = true := bne_iff_ne.mpr c17
            exact absurd ((Option.some.inj H).trans HR_.out) (by decide)
        · rw [if_neg c16] at H
          have c16b0 : (((t268 : Nat) : Int) == t269) = false := beq_eq_false_iff_ne.mpr c16
          have c16b1 : (((t268 : Nat) : Int) != t269) = true := bne_iff_ne.mpr c16
          exact absurd ((Option.some.inj H).trans HR_.out) (by decide)

/-- THE ONE PURE STATEMENT of compasslaw02_ScaleBacks: yours. -/
def compasslaw02_ScaleBacks.Pure : Prop := ∀ (a0 : Int) (a1 : Int) (a2 : Int), (Lit.int .i64 a0).wf = true → (Lit.int .i64 a1).wf = true → (Lit.int .i64 a2).wf = true → ∃ k, compasslaw02_ScaleBacks.f k a0 a1 a2 = some true
theorem compasslaw02_ScaleBacks.walk (P : compasslaw02_ScaleBacks.Pure) (a0 : Int) (a1 : Int) (a2 : Int) (w : World) (hL : Laid w) (w0 : (Lit.int .i64 a0).wf = true) (w1 : (Lit.int .i64 a1).wf = true) (w2 : (Lit.int .i64 a2).wf = true) :
    Calls Tryd.prog 6 #[.int .i64 a0, .int .i64 a1, .int .i64 a2] w fun e w' => e = .returned (.bool true) ∧ Below w.heap.size w w' := by
  obtain ⟨k, h⟩ := P a0 a1 a2 w0 w1 w2
  refine (compasslaw02_ScaleBacks.calls k a0 a1 a2 true w rfl h hL).mono ?_
  rintro e w' ⟨rfl, hd⟩
  exact ⟨rfl, hd⟩

end Go.Proofs.YtdkhaibibpekoaaDoor.Q
