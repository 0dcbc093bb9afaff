-- PRINTED by print.py (a twelfth state) out of the translation. Not trusted: Lean checks it.
import Derived.Test.YtdkhaibibpekoaaDoorQ0
import Derived.Test.YtdkhaibibpekoaaDoorQ4
import Derived.Test.YtdkhaibibpekoaaDoorQ5
import Derived.Test.YtdkhaibibpekoaaDoorQ6
import Derived.Test.YtdkhaibibpekoaaDoorQ12
import Derived.Test.YtdkhaibibpekoaaDoorQ13
namespace Go.Proofs.YtdkhaibibpekoaaDoor.Q
open Go.RowKit Go.Proofs.YtdkhaibibpekoaaDoorW.PrintWords Go.Proofs.YtdkhaibibpekoaaDoorW.PrintLast Go.Proofs.YtdkhaibibpekoaaDoorW.PrintMore
attribute [local go_sem] max2_int min2_int max_two min_two max_three min_three max_four min_four   -- for this text's walks alone
set_option linter.unusedVariables false
set_option linter.unusedSimpArgs false

/-! ### scale_Quotient: function 13 -/
def scale_Quotient.f (k : Nat) (a0 : Int) (a1 : Int) : Option (Nat × Int) := if a1 = 0 then (some (0, 11)) else ((scale_size.f a0).bind fun t246 => ((scale_size.f a1).bind fun t247 => (if t246 = 0 then (some (0, 0)) else ((bits_Len64.f t246).bind fun t248 => ((bits_Len64.f t247).bind fun t249 => ((scale_shifted.f t246 (wrap64 ((wrap64 (63 - t248)) + t249))).bind fun bt250 => ((bits_Div64.f k bt250.1 bt250.2 t247).bind fun bt252 => ((scale_rounded.f k ((decide (a0 < 0)) != (decide (a1 < 0))) bt252.1 (wrap64 (-(wrap64 ((wrap64 (63 - t248)) + t249)))) (bt252.2 != 0)).bind fun t254 => (some (t254, 0))))))))))
theorem scale_Quotient.mono : ∀ a0 a1 k, LeO (scale_Quotient.f k a0 a1) (scale_Quotient.f (k + 1) a0 a1) := by
  intro a0 a1 k
  unfold scale_Quotient.f
  repeat' first
      | (with_reducible exact bits_Div64.mono _ _ _ _)
      | (with_reducible exact scale_rounded.mono _ _ _ _ _)
      | (with_reducible exact LeO.refl _)
      | (with_reducible exact LeO.none _)
      | (with_reducible refine LeO.ite ?_ ?_)
      | (with_reducible refine LeO.bind ?_ (fun _ => ?_))
      | exact bits_Div64.mono _ _ _ _
      | exact scale_rounded.mono _ _ _ _ _
      | exact LeO.none _
      | refine LeO.ite ?_ ?_
      | refine LeO.bind ?_ (fun _ => ?_)
set_option maxHeartbeats 8000000 in
set_option maxRecDepth 100000 in
theorem scale_Quotient.calls (k : Nat) (a0 : Int) (a1 : Int) (r1 : Nat) (r2 : Int) (w : World) (h : scale_Quotient.f k a0 a1 = some (r1, r2)) :
    Calls Tryd.prog 13 #[.int .i64 a0, .int .i64 a1] w fun e w' => e = .returned (.tuple #[.float .f64 r1, .int .i64 r2]) ∧ Below w.heap.size w w' := by
  have HB := Aside0.mk (Below.refl w.heap.size w)
  have H : (if a1 = 0 then (some (0, 11)) else ((scale_size.f a0).bind fun t246 => ((scale_size.f a1).bind fun t247 => (if t246 = 0 then (some (0, 0)) else ((bits_Len64.f t246).bind fun t248 => ((bits_Len64.f t247).bind fun t249 => ((scale_shifted.f t246 (wrap64 ((wrap64 (63 - t248)) + t249))).bind fun bt250 => ((bits_Div64.f k bt250.1 bt250.2 t247).bind fun bt252 => ((scale_rounded.f k ((decide (a0 < 0)) != (decide (a1 < 0))) bt252.1 (wrap64 (-(wrap64 ((wrap64 (63 - t248)) + t249)))) (bt252.2 != 0)).bind fun t254 => (some (t254, 0))))))))))) = some (r1, r2) := h
  clear h
  by_cases c3 : a1 = 0
  · rw [if_pos c3] at H
    have c3b0 : (a1 == 0) = true := beq_iff_eq.mpr c3
    have c3b1 : (a1 != 0) = false := bne_eq_false_iff_eq.mpr c3
    clear c3
    simp only [Option.some.injEq, Prod.mk.injEq] at H
    obtain ⟨rfl, rfl⟩ := H
    go_enter Tryd.func13, Tryd.ntmps13
    go_wp2
    go_ret2
    exact ⟨by first | rfl | (simp [errW_none, errW_some] <;> rfl) | (simp [*, errW_none, errW_some] <;> rfl), by repeat (first | (with_reducible first | exact HB.out | apply below_alloc | apply pw_below_drewN | apply below_drew1) | exact HB.out)⟩
  · rw [if_neg c3] at H
    have c3b0 : (a1 == 0) = false := beq_eq_false_iff_ne.mpr c3
    have c3b1 : (a1 != 0) = true := bne_iff_ne.mpr c3
    replace H := Option.bind_eq_some_iff.mp H
    obtain ⟨t246, A40, H⟩ := H
    replace H : ((scale_size.f a1).bind fun t247 => (if t246 = 0 then (some (0, 0)) else ((bits_Len64.f t246).bind fun t248 => ((bits_Len64.f t247).bind fun t249 => ((scale_shifted.f t246 (wrap64 ((wrap64 (63 - t248)) + t249))).bind fun bt250 => ((bits_Div64.f k bt250.1 bt250.2 t247).bind fun bt252 => ((scale_rounded.f k ((decide (a0 < 0)) != (decide (a1 < 0))) bt252.1 (wrap64 (-(wrap64 ((wrap64 (63 - t248)) + t249)))) (bt252.2 != 0)).bind fun t254 => (some (t254, 0))))))))) = some (r1, r2) := H
    have A4 := Aside0.mk A40
    clear A40
    replace H := Option.bind_eq_some_iff.mp H
    obtain ⟨t247, A50, H⟩ := H
    replace H : (if t246 = 0 then (some (0, 0)) else ((bits_Len64.f t246).bind fun t248 => ((bits_Len64.f t247).bind fun t249 => ((scale_shifted.f t246 (wrap64 ((wrap64 (63 - t248)) + t249))).bind fun bt250 => ((bits_Div64.f k bt250.1 bt250.2 t247).bind fun bt252 => ((scale_rounded.f k ((decide (a0 < 0)) != (decide (a1 < 0))) bt252.1 (wrap64 (-(wrap64 ((wrap64 (63 - t248)) + t249)))) (bt252.2 != 0)).bind fun t254 => (some (t254, 0)))))))) = some (r1, r2) := H
    have A5 := Aside0.mk A50
    clear A50
    by_cases c6 : t246 = 0
    · rw [if_pos c6] at H
      have c6b0 : (t246 == 0) = true := beq_iff_eq.mpr c6
      have c6b1 : (t246 != 0) = false := bne_eq_false_iff_eq.mpr c6
      clear c6
      simp only [Option.some.injEq, Prod.mk.injEq] at H
      obtain ⟨rfl, rfl⟩ := H
      go_enter Tryd.func13, Tryd.ntmps13
      go_wp2_with (first | ((with_reducible refine gate_callee (f := 24) rfl ?_); refine goesL_ (some 16) rfl rfl Tryd.func24 (by kernel_rfl) rfl #[.int .i64 a0] rfl (by (try simp only [List.map_toArray, List.map_cons, List.map_nil]); first | done | rfl | (simp only [List.length_drop, List.length_take]; rfl)) ?_; (with_reducible refine (scale_size.calls a0 t246 _ A4.out).mono ?_); rintro e w' ⟨rfl, ⟨nd, rfl⟩⟩; refine ⟨_, rfl, ?_⟩) | ((with_reducible refine gate_callee (f := 24) rfl ?_); refine goesL_ (some 18) rfl rfl Tryd.func24 (by kernel_rfl) rfl #[.int .i64 a1] rfl (by (try simp only [List.map_toArray, List.map_cons, List.map_nil]); first | done | rfl | (simp only [List.length_drop, List.length_take]; rfl)) ?_; (with_reducible refine (scale_size.calls a1 t247 _ A5.out).mono ?_); rintro e w' ⟨rfl, ⟨nd, rfl⟩⟩; refine ⟨_, rfl, ?_⟩))
      go_ret2
      exact ⟨by first | rfl | (simp [errW_none, errW_some] <;> rfl) | (simp [*, errW_none, errW_some] <;> rfl), by repeat (first | (with_reducible first | exact HB.out | apply below_alloc | apply pw_below_drewN | apply below_drew1) | exact HB.out)⟩
    · rw [if_neg c6] at H
      have c6b0 : (t246 == 0) = false := beq_eq_false_iff_ne.mpr c6
      have c6b1 : (t246 != 0) = true := bne_iff_ne.mpr c6
      replace H := Option.bind_eq_some_iff.mp H
      obtain ⟨t248, A70, H⟩ := H
      replace H : ((bits_Len64.f t247).bind fun t249 => ((scale_shifted.f t246 (wrap64 ((wrap64 (63 - t248)) + t249))).bind fun bt250 => ((bits_Div64.f k bt250.1 bt250.2 t247).bind fun bt252 => ((scale_rounded.f k ((decide (a0 < 0)) != (decide (a1 < 0))) bt252.1 (wrap64 (-(wrap64 ((wrap64 (63 - t248)) + t249)))) (bt252.2 != 0)).bind fun t254 => (some (t254, 0)))))) = some (r1, r2) := H
      have A7 := Aside0.mk A70
      clear A70
      replace H := Option.bind_eq_some_iff.mp H
      obtain ⟨t249, A80, H⟩ := H
      replace H : ((scale_shifted.f t246 (wrap64 ((wrap64 (63 - t248)) + t249))).bind fun bt250 => ((bits_Div64.f k bt250.1 bt250.2 t247).bind fun bt252 => ((scale_rounded.f k ((decide (a0 < 0)) != (decide (a1 < 0))) bt252.1 (wrap64 (-(wrap64 ((wrap64 (63 - t248)) + t249)))) (bt252.2 != 0)).bind fun t254 => (some (t254, 0))))) = some (r1, r2) := H
      have A8 := Aside0.mk A80
      clear A80
      replace H := Option.bind_eq_some_iff.mp H
      obtain ⟨⟨t250, t251⟩, A90, H⟩ := H
      replace H : ((bits_Div64.f k t250 t251 t247).bind fun bt252 => ((scale_rounded.f k ((decide (a0 < 0)) != (decide (a1 < 0))) bt252.1 (wrap64 (-(wrap64 ((wrap64 (63 - t248)) + t249)))) (bt252.2 != 0)).bind fun t254 => (some (t254, 0)))) = some (r1, r2) := H
      have A9 := Aside0.mk A90
      clear A90
      replace H := Option.bind_eq_some_iff.mp H
      obtain ⟨⟨t252, t253⟩, A100, H⟩ := H
      replace H : ((scale_rounded.f k ((decide (a0 < 0)) != (decide (a1 < 0))) t252 (wrap64 (-(wrap64 ((wrap64 (63 - t248)) + t249)))) (t253 != 0)).bind fun t254 => (some (t254, 0))) = some (r1, r2) := H
      have A10 := Aside0.mk A100
      clear A100
      replace H := Option.bind_eq_some_iff.mp H
      obtain ⟨t254, A110, H⟩ := H
      replace H : (some (t254, 0)) = some (r1, r2) := H
      have A11 := Aside0.mk A110
      clear A110
      simp only [Option.some.injEq, Prod.mk.injEq] at H
      obtain ⟨rfl, rfl⟩ := H
      go_enter Tryd.func13, Tryd.ntmps13
      go_wp2_with (first | ((with_reducible refine gate_callee (f := 24) rfl ?_); refine goesL_ (some 16) rfl rfl Tryd.func24 (by kernel_rfl) rfl #[.int .i64 a0] rfl (by (try simp only [List.map_toArray, List.map_cons, List.map_nil]); first | done | rfl | (simp only [List.length_drop, List.length_take]; rfl)) ?_; (with_reducible refine (scale_size.calls a0 t246 _ A4.out).mono ?_); rintro e w' ⟨rfl, ⟨nd, rfl⟩⟩; refine ⟨_, rfl, ?_⟩) | ((with_reducible refine gate_callee (f := 24) rfl ?_); refine goesL_ (some 18) rfl rfl Tryd.func24 (by kernel_rfl) rfl #[.int .i64 a1] rfl (by (try simp only [List.map_toArray, List.map_cons, List.map_nil]); first | done | rfl | (simp only [List.length_drop, List.length_take]; rfl)) ?_; (with_reducible refine (scale_size.calls a1 t247 _ A5.out).mono ?_); rintro e w' ⟨rfl, ⟨nd, rfl⟩⟩; refine ⟨_, rfl, ?_⟩) | ((with_reducible refine gate_callee (f := 27) rfl ?_); refine goesL_ (some 22) rfl rfl Tryd.func27 (by kernel_rfl) rfl #[.int .u64 t246] rfl (by (try simp only [List.map_toArray, List.map_cons, List.map_nil]); first | done | rfl | (simp only [List.length_drop, List.length_take]; rfl)) ?_; (with_reducible refine (bits_Len64.calls t246 t248 _ A7.out).mono ?_); rintro e w' ⟨rfl, ⟨nd, rfl⟩⟩; refine ⟨_, rfl, ?_⟩) | ((with_reducible refine gate_callee (f := 27) rfl ?_); refine goesL_ (some 25) rfl rfl Tryd.func27 (by kernel_rfl) rfl #[.int .u64 t247] rfl (by (try simp only [List.map_toArray, List.map_cons, List.map_nil]); first | done | rfl | (simp only [List.length_drop, List.length_take]; rfl)) ?_; (with_reducible refine (bits_Len64.calls t247 t249 _ A8.out).mono ?_); rintro e w' ⟨rfl, ⟨nd, rfl⟩⟩; refine ⟨_, rfl, ?_⟩) | ((with_reducible refine gate_callee (f := 28) rfl ?_); refine goesL_ (some 30) rfl rfl Tryd.func28 (by kernel_rfl) rfl #[.int .u64 t246, .int .i64 (wrap64 ((wrap64 (63 - t248)) + t249))] rfl (by (try simp only [List.map_toArray, List.map_cons, List.map_nil]); first | done | rfl | (simp only [List.length_drop, List.length_take]; rfl)) ?_; (with_reducible refine (scale_shifted.calls t246 (wrap64 ((wrap64 (63 - t248)) + t249)) t250 t251 _ A9.out).mono ?_); rintro e w' ⟨rfl, ⟨nd, rfl⟩⟩; refine ⟨_, rfl, ?_⟩) | ((with_reducible refine gate_callee (f := 29) rfl ?_); refine goesL_ (some 37) rfl rfl Tryd.func29 (by kernel_rfl) rfl #[.int .u64 t250, .int .u64 t251, .int .u64 t247] rfl (by (try simp only [List.map_toArray, List.map_cons, List.map_nil]); first | done | rfl | (simp only [List.length_drop, List.length_take]; rfl)) ?_; (with_reducible refine (bits_Div64.calls k t250 t251 t247 t252 t253 _ A10.out).mono ?_); rintro e w' ⟨rfl, ⟨nd, rfl⟩⟩; refine ⟨_, rfl, ?_⟩) | ((with_reducible refine gate_callee (f := 23) rfl ?_); refine goesL_ (some 50) rfl rfl Tryd.func23 (by kernel_rfl) rfl #[.bool ((decide (a0 < 0)) != (decide (a1 < 0))), .int .u64 t252, .int .i64 (wrap64 (-(wrap64 ((wrap64 (63 - t248)) + t249)))), .bool (t253 != 0)] rfl (by (try simp only [List.map_toArray, List.map_cons, List.map_nil]); first | done | rfl | (simp only [List.length_drop, List.length_take]; rfl)) ?_; (with_reducible refine (scale_rounded.calls k ((decide (a0 < 0)) != (decide (a1 < 0))) t252 (wrap64 (-(wrap64 ((wrap64 (63 - t248)) + t249)))) (t253 != 0) t254 _ A11.out).mono ?_); rintro e w12 ⟨rfl, hb⟩; refine ⟨_, rfl, ?_⟩; have n0_ := Aside0.mk (below_step (by repeat (first | (with_reducible first | exact HB.out | apply below_alloc | apply pw_below_drewN | apply below_drew1) | exact HB.out)) hb); clear HB; have HB := n0_; clear n0_; (try clear hb); (try clear hb2); (try clear hk); (try clear hi)))
      go_ret2
      exact ⟨by first | rfl | (simp [errW_none, errW_some] <;> rfl) | (simp [*, errW_none, errW_some] <;> rfl), by repeat (first | (with_reducible first | exact HB.out | apply below_alloc | apply pw_below_drewN | apply below_drew1) | exact HB.out)⟩

/-! ### compassref02_size: function 30 -/
def compassref02_size.f (a0 : Int) : Option (Int) := if a0 < 0 then (some (IntKind.u64.wrap ((IntKind.u64.wrap (wrap64 (-(wrap64 (a0 + 1))))) + 1))) else (some (IntKind.u64.wrap (a0)))
set_option maxHeartbeats 8000000 in
set_option maxRecDepth 100000 in
theorem compassref02_size.calls (a0 : Int) (r : Int) (w : World) (h : compassref02_size.f a0 = some r) :
    Calls Tryd.prog 30 #[.int .i64 a0] w fun e w' => e = .returned (.int .u64 r) ∧ Drawn0 w w' := by
  have H : (if a0 < 0 then (some (IntKind.u64.wrap ((IntKind.u64.wrap (wrap64 (-(wrap64 (a0 + 1))))) + 1))) else (some (IntKind.u64.wrap (a0)))) = some r := h
  clear h
  by_cases c2 : a0 < 0
  · rw [if_pos c2] at H
    have c2b0 : decide (a0 < 0) = true := decide_eq_true c2
    clear c2
    obtain rfl := Option.some.inj H
    go_enter Tryd.func30, Tryd.ntmps30
    go_wp2
    go_ret
    exact ⟨by first | rfl | (simp; done) | (simp [*]; done), by repeat (first | exact Drawn0.refl _ | apply Drawn0.step)⟩
  · rw [if_neg c2] at H
    have c2b0 : decide (a0 < 0) = false := decide_eq_false c2
    clear c2
    obtain rfl := Option.some.inj H
    go_enter Tryd.func30, Tryd.ntmps30
    go_wp2
    go_ret
    exact ⟨by first | rfl | (simp; done) | (simp [*]; done), by repeat (first | exact Drawn0.refl _ | apply Drawn0.step)⟩

/-! ### compassref02_length: function 39 -/
def compassref02_length.l0 : Nat → Int → Int → Option (Int)
  | 0, _, _ => none
  | k + 1, x0, x3 => if x0 > 0 then (compassref02_length.l0 k (IntKind.u64.wrap (Int.tdiv x0 2)) (wrap64 (x3 + 1))) else (some x3)
def compassref02_length.f (k : Nat) (a0 : Int) : Option (Int) := compassref02_length.l0 k a0 0
theorem compassref02_length.mono_l : ∀ k, (∀ y0 y1, LeO (compassref02_length.l0 k y0 y1) (compassref02_length.l0 (k + 1) y0 y1))
  | 0 => fun _ _ r h => by simp [compassref02_length.l0] at h
  | k + 1 => by
    have ih0 := compassref02_length.mono_l k
    · intro y0 y1
      unfold compassref02_length.l0
      repeat' first
      | (with_reducible exact ih0 _ _)
      | (with_reducible exact LeO.refl _)
      | (with_reducible exact LeO.none _)
      | (with_reducible refine LeO.ite ?_ ?_)
      | (with_reducible refine LeO.bind ?_ (fun _ => ?_))
      | exact ih0 _ _
      | exact LeO.none _
      | refine LeO.ite ?_ ?_
      | refine LeO.bind ?_ (fun _ => ?_)
theorem compassref02_length.mono : ∀ a0 k, LeO (compassref02_length.f k a0) (compassref02_length.f (k + 1) a0) := by
  intro a0 k
  have ih0 := compassref02_length.mono_l k
  unfold compassref02_length.f
  repeat' first
      | (with_reducible exact ih0 _ _)
      | (with_reducible exact LeO.refl _)
      | (with_reducible exact LeO.none _)
      | (with_reducible refine LeO.ite ?_ ?_)
      | (with_reducible refine LeO.bind ?_ (fun _ => ?_))
      | exact ih0 _ _
      | exact LeO.none _
      | refine LeO.ite ?_ ?_
      | refine LeO.bind ?_ (fun _ => ?_)
set_option maxHeartbeats 8000000 in
set_option maxRecDepth 100000 in
theorem compassref02_length.calls (k : Nat) (a0 : Int) (r : Int) (w : World) (h : compassref02_length.f k a0 = some r) :
    Calls Tryd.prog 39 #[.int .u64 a0] w fun e w' => e = .returned (.int .i64 r) ∧ Drawn0 w w' := by
  have H : (compassref02_length.l0 k a0 0) = some r := h
  clear h
  have H' := Aside0.mk H
  clear H
  go_enter Tryd.func39, Tryd.ntmps39
  go_wp2
  go_loopg [0, 3] k (fun kq v0 v3 w' => ∃ (x0_1 : Int) (x3_1 : Int), v0 = .int .u64 x0_1 ∧ v3 = .int .i64 x3_1 ∧ Aside0 (compassref02_length.l0 kq x0_1 x3_1 = some r) ∧ Aside0 (kq ≤ k) ∧ Drawn0 w w')
  case atStart => exact ⟨(a0), (0), (by first | rfl | (simp; done) | (simp [*]; done)), (by first | rfl | (simp; done) | (simp [*]; done)), H', ⟨Nat.le_refl _⟩, by repeat (first | exact Drawn0.refl _ | apply Drawn0.step)⟩
  case round =>
    clear H'
    obtain ⟨x0_1, x3_1, rfl, rfl, HA, HK1, ⟨m1, rfl⟩⟩ := hrel
    cases gk with
    | zero => exact absurd HA.out (by simp [compassref02_length.l0])
    | succ k1 =>
      have H := HA.out
      clear HA
      simp only [compassref02_length.l0] at H
      by_cases c2 : x0_1 > 0
      · rw [if_pos c2] at H
        have c2b0 : decide (0 < x0_1) = true := decide_eq_true c2
        clear c2
        have H' := Aside0.mk H
        clear H
        go_wp2
        go_roundg k1
        case measure => have := HK1.out; omega
        case rel => exact ⟨(IntKind.u64.wrap (Int.tdiv x0_1 2)), (wrap64 (x3_1 + 1)), (by first | rfl | (simp; done) | (simp [*]; done)), (by first | rfl | (simp; done) | (simp [*]; done)), H', ⟨by have := HK1.out; omega⟩, by repeat (first | exact Drawn0.refl _ | apply Drawn0.step)⟩
      · rw [if_neg c2] at H
        have c2b0 : decide (0 < x0_1) = false := decide_eq_false c2
        clear c2
        obtain rfl := Option.some.inj H
        go_wp2
        go_ret
        exact ⟨by first | rfl | (simp; done) | (simp [*]; done), by repeat (first | exact Drawn0.refl _ | apply Drawn0.step)⟩

end Go.Proofs.YtdkhaibibpekoaaDoor.Q
