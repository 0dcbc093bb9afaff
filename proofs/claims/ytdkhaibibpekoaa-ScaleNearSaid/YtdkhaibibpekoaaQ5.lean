-- PRINTED by print.py (a twelfth state) out of the translation. Not trusted: Lean checks it.
import Derived.Test.YtdkhaibibpekoaaQ0
import Derived.Test.YtdkhaibibpekoaaQ1
import Derived.Test.YtdkhaibibpekoaaQ2
import Derived.Test.YtdkhaibibpekoaaQ4
namespace Go.Proofs.Ytdkhaibibpekoaa.Q
open Go.RowKit Go.Proofs.YtdkhaibibpekoaaW.PrintWords Go.Proofs.YtdkhaibibpekoaaW.PrintLast Go.Proofs.YtdkhaibibpekoaaW.PrintMore
attribute [local go_sem] max2_int min2_int max_two min_two max_three min_three max_four min_four   -- for this text's walks alone
set_option linter.unusedVariables false
set_option linter.unusedSimpArgs false

/-! ### scale_Quotient: function 13 -/
def scale_Quotient.f (k : Nat) (a0 : Int) (a1 : Int) : Option (Nat × Int) := if a1 = 0 then (some (0, 11)) else ((scale_size.f a0).bind fun t117 => ((scale_size.f a1).bind fun t118 => (if t117 = 0 then (some (0, 0)) else ((bits_Len64.f t117).bind fun t119 => ((bits_Len64.f t118).bind fun t120 => ((scale_shifted.f t117 (wrap64 ((wrap64 (63 - t119)) + t120))).bind fun bt121 => ((bits_Div64.f k bt121.1 bt121.2 t118).bind fun bt123 => ((scale_rounded.f k ((decide (a0 < 0)) != (decide (a1 < 0))) bt123.1 (wrap64 (-(wrap64 ((wrap64 (63 - t119)) + t120)))) (bt123.2 != 0)).bind fun t125 => (some (t125, 0))))))))))
theorem scale_Quotient.mono : ∀ a0 a1 k, LeO (scale_Quotient.f k a0 a1) (scale_Quotient.f (k + 1) a0 a1) := by
  intro a0 a1 k
  unfold scale_Quotient.f
  repeat' first
      | (with_reducible exact bits_Div64.mono _ _ _ _)
      | (with_reducible exact scale_rounded.mono _ _ _ _ _)
      | (with_reducible exact LeO.refl _)
      | (with_reducible exact LeO.none _)
      | (with_reducible refine LeO.ite ?_ ?_)
      | (with_reducible refine LeO.bind ?_ (fun _ => ?_))
      | exact bits_Div64.mono _ _ _ _
      | exact scale_rounded.mono _ _ _ _ _
      | exact LeO.none _
      | refine LeO.ite ?_ ?_
      | refine LeO.bind ?_ (fun _ => ?_)
set_option maxHeartbeats 8000000 in
set_option maxRecDepth 100000 in
theorem scale_Quotient.calls (k : Nat) (a0 : Int) (a1 : Int) (r1 : Nat) (r2 : Int) (w : World) (h : scale_Quotient.f k a0 a1 = some (r1, r2)) :
    Calls Try.prog 13 #[.int .i64 a0, .int .i64 a1] w fun e w' => e = .returned (.tuple #[.float .f64 r1, .int .i64 r2]) ∧ Below w.heap.size w w' := by
  have HB := Aside0.mk (Below.refl w.heap.size w)
  have H : (if a1 = 0 then (some (0, 11)) else ((scale_size.f a0).bind fun t117 => ((scale_size.f a1).bind fun t118 => (if t117 = 0 then (some (0, 0)) else ((bits_Len64.f t117).bind fun t119 => ((bits_Len64.f t118).bind fun t120 => ((scale_shifted.f t117 (wrap64 ((wrap64 (63 - t119)) + t120))).bind fun bt121 => ((bits_Div64.f k bt121.1 bt121.2 t118).bind fun bt123 => ((scale_rounded.f k ((decide (a0 < 0)) != (decide (a1 < 0))) bt123.1 (wrap64 (-(wrap64 ((wrap64 (63 - t119)) + t120)))) (bt123.2 != 0)).bind fun t125 => (some (t125, 0))))))))))) = some (r1, r2) := h
  clear h
  by_cases c3 : a1 = 0
  · rw [if_pos c3] at H
    have c3b0 : (a1 == 0) = true := beq_iff_eq.mpr c3
    have c3b1 : (a1 != 0) = false := bne_eq_false_iff_eq.mpr c3
    clear c3
    simp only [Option.some.injEq, Prod.mk.injEq] at H
    obtain ⟨rfl, rfl⟩ := H
    go_enter Try.func13, Try.ntmps13
    go_wp2
    go_ret2
    exact ⟨by first | rfl | (simp [errW_none, errW_some] <;> rfl) | (simp [*, errW_none, errW_some] <;> rfl), by repeat (first | (with_reducible first | exact HB.out | apply below_alloc | apply pw_below_drewN | apply below_drew1) | exact HB.out)⟩
  · rw [if_neg c3] at H
    have c3b0 : (a1 == 0) = false := beq_eq_false_iff_ne.mpr c3
    have c3b1 : (a1 != 0) = true := bne_iff_ne.mpr c3
    replace H := Option.bind_eq_some_iff.mp H
    obtain ⟨t117, A40, H⟩ := H
    replace H : ((scale_size.f a1).bind fun t118 => (if t117 = 0 then (some (0, 0)) else ((bits_Len64.f t117).bind fun t119 => ((bits_Len64.f t118).bind fun t120 => ((scale_shifted.f t117 (wrap64 ((wrap64 (63 - t119)) + t120))).bind fun bt121 => ((bits_Div64.f k bt121.1 bt121.2 t118).bind fun bt123 => ((scale_rounded.f k ((decide (a0 < 0)) != (decide (a1 < 0))) bt123.1 (wrap64 (-(wrap64 ((wrap64 (63 - t119)) + t120)))) (bt123.2 != 0)).bind fun t125 => (some (t125, 0))))))))) = some (r1, r2) := H
    have A4 := Aside0.mk A40
    clear A40
    replace H := Option.bind_eq_some_iff.mp H
    obtain ⟨t118, A50, H⟩ := H
    replace H : (if t117 = 0 then (some (0, 0)) else ((bits_Len64.f t117).bind fun t119 => ((bits_Len64.f t118).bind fun t120 => ((scale_shifted.f t117 (wrap64 ((wrap64 (63 - t119)) + t120))).bind fun bt121 => ((bits_Div64.f k bt121.1 bt121.2 t118).bind fun bt123 => ((scale_rounded.f k ((decide (a0 < 0)) != (decide (a1 < 0))) bt123.1 (wrap64 (-(wrap64 ((wrap64 (63 - t119)) + t120)))) (bt123.2 != 0)).bind fun t125 => (some (t125, 0)))))))) = some (r1, r2) := H
    have A5 := Aside0.mk A50
    clear A50
    by_cases c6 : t117 = 0
    · rw [if_pos c6] at H
      have c6b0 : (t117 == 0) = true := beq_iff_eq.mpr c6
      have c6b1 : (t117 != 0) = false := bne_eq_false_iff_eq.mpr c6
      clear c6
      simp only [Option.some.injEq, Prod.mk.injEq] at H
      obtain ⟨rfl, rfl⟩ := H
      go_enter Try.func13, Try.ntmps13
      go_wp2_with (first | ((with_reducible refine gate_callee (f := 19) rfl ?_); refine goesL_ (some 16) rfl rfl Try.func19 (by kernel_rfl) rfl #[.int .i64 a0] rfl (by (try simp only [List.map_toArray, List.map_cons, List.map_nil]); first | done | rfl | (simp only [List.length_drop, List.length_take]; rfl)) ?_; (with_reducible refine (scale_size.calls a0 t117 _ A4.out).mono ?_); rintro e w' ⟨rfl, ⟨nd, rfl⟩⟩; refine ⟨_, rfl, ?_⟩) | ((with_reducible refine gate_callee (f := 19) rfl ?_); refine goesL_ (some 18) rfl rfl Try.func19 (by kernel_rfl) rfl #[.int .i64 a1] rfl (by (try simp only [List.map_toArray, List.map_cons, List.map_nil]); first | done | rfl | (simp only [List.length_drop, List.length_take]; rfl)) ?_; (with_reducible refine (scale_size.calls a1 t118 _ A5.out).mono ?_); rintro e w' ⟨rfl, ⟨nd, rfl⟩⟩; refine ⟨_, rfl, ?_⟩))
      go_ret2
      exact ⟨by first | rfl | (simp [errW_none, errW_some] <;> rfl) | (simp [*, errW_none, errW_some] <;> rfl), by repeat (first | (with_reducible first | exact HB.out | apply below_alloc | apply pw_below_drewN | apply below_drew1) | exact HB.out)⟩
    · rw [if_neg c6] at H
      have c6b0 : (t117 == 0) = false := beq_eq_false_iff_ne.mpr c6
      have c6b1 : (t117 != 0) = true := bne_iff_ne.mpr c6
      replace H := Option.bind_eq_some_iff.mp H
      obtain ⟨t119, A70, H⟩ := H
      replace H : ((bits_Len64.f t118).bind fun t120 => ((scale_shifted.f t117 (wrap64 ((wrap64 (63 - t119)) + t120))).bind fun bt121 => ((bits_Div64.f k bt121.1 bt121.2 t118).bind fun bt123 => ((scale_rounded.f k ((decide (a0 < 0)) != (decide (a1 < 0))) bt123.1 (wrap64 (-(wrap64 ((wrap64 (63 - t119)) + t120)))) (bt123.2 != 0)).bind fun t125 => (some (t125, 0)))))) = some (r1, r2) := H
      have A7 := Aside0.mk A70
      clear A70
      replace H := Option.bind_eq_some_iff.mp H
      obtain ⟨t120, A80, H⟩ := H
      replace H : ((scale_shifted.f t117 (wrap64 ((wrap64 (63 - t119)) + t120))).bind fun bt121 => ((bits_Div64.f k bt121.1 bt121.2 t118).bind fun bt123 => ((scale_rounded.f k ((decide (a0 < 0)) != (decide (a1 < 0))) bt123.1 (wrap64 (-(wrap64 ((wrap64 (63 - t119)) + t120)))) (bt123.2 != 0)).bind fun t125 => (some (t125, 0))))) = some (r1, r2) := H
      have A8 := Aside0.mk A80
      clear A80
      replace H := Option.bind_eq_some_iff.mp H
      obtain ⟨⟨t121, t122⟩, A90, H⟩ := H
      replace H : ((bits_Div64.f k t121 t122 t118).bind fun bt123 => ((scale_rounded.f k ((decide (a0 < 0)) != (decide (a1 < 0))) bt123.1 (wrap64 (-(wrap64 ((wrap64 (63 - t119)) + t120)))) (bt123.2 != 0)).bind fun t125 => (some (t125, 0)))) = some (r1, r2) := H
      have A9 := Aside0.mk A90
      clear A90
      replace H := Option.bind_eq_some_iff.mp H
      obtain ⟨⟨t123, t124⟩, A100, H⟩ := H
      replace H : ((scale_rounded.f k ((decide (a0 < 0)) != (decide (a1 < 0))) t123 (wrap64 (-(wrap64 ((wrap64 (63 - t119)) + t120)))) (t124 != 0)).bind fun t125 => (some (t125, 0))) = some (r1, r2) := H
      have A10 := Aside0.mk A100
      clear A100
      replace H := Option.bind_eq_some_iff.mp H
      obtain ⟨t125, A110, H⟩ := H
      replace H : (some (t125, 0)) = some (r1, r2) := H
      have A11 := Aside0.mk A110
      clear A110
      simp only [Option.some.injEq, Prod.mk.injEq] at H
      obtain ⟨rfl, rfl⟩ := H
      go_enter Try.func13, Try.ntmps13
      go_wp2_with (first | ((with_reducible refine gate_callee (f := 19) rfl ?_); refine goesL_ (some 16) rfl rfl Try.func19 (by kernel_rfl) rfl #[.int .i64 a0] rfl (by (try simp only [List.map_toArray, List.map_cons, List.map_nil]); first | done | rfl | (simp only [List.length_drop, List.length_take]; rfl)) ?_; (with_reducible refine (scale_size.calls a0 t117 _ A4.out).mono ?_); rintro e w' ⟨rfl, ⟨nd, rfl⟩⟩; refine ⟨_, rfl, ?_⟩) | ((with_reducible refine gate_callee (f := 19) rfl ?_); refine goesL_ (some 18) rfl rfl Try.func19 (by kernel_rfl) rfl #[.int .i64 a1] rfl (by (try simp only [List.map_toArray, List.map_cons, List.map_nil]); first | done | rfl | (simp only [List.length_drop, List.length_take]; rfl)) ?_; (with_reducible refine (scale_size.calls a1 t118 _ A5.out).mono ?_); rintro e w' ⟨rfl, ⟨nd, rfl⟩⟩; refine ⟨_, rfl, ?_⟩) | ((with_reducible refine gate_callee (f := 20) rfl ?_); refine goesL_ (some 22) rfl rfl Try.func20 (by kernel_rfl) rfl #[.int .u64 t117] rfl (by (try simp only [List.map_toArray, List.map_cons, List.map_nil]); first | done | rfl | (simp only [List.length_drop, List.length_take]; rfl)) ?_; (with_reducible refine (bits_Len64.calls t117 t119 _ A7.out).mono ?_); rintro e w' ⟨rfl, ⟨nd, rfl⟩⟩; refine ⟨_, rfl, ?_⟩) | ((with_reducible refine gate_callee (f := 20) rfl ?_); refine goesL_ (some 25) rfl rfl Try.func20 (by kernel_rfl) rfl #[.int .u64 t118] rfl (by (try simp only [List.map_toArray, List.map_cons, List.map_nil]); first | done | rfl | (simp only [List.length_drop, List.length_take]; rfl)) ?_; (with_reducible refine (bits_Len64.calls t118 t120 _ A8.out).mono ?_); rintro e w' ⟨rfl, ⟨nd, rfl⟩⟩; refine ⟨_, rfl, ?_⟩) | ((with_reducible refine gate_callee (f := 21) rfl ?_); refine goesL_ (some 30) rfl rfl Try.func21 (by kernel_rfl) rfl #[.int .u64 t117, .int .i64 (wrap64 ((wrap64 (63 - t119)) + t120))] rfl (by (try simp only [List.map_toArray, List.map_cons, List.map_nil]); first | done | rfl | (simp only [List.length_drop, List.length_take]; rfl)) ?_; (with_reducible refine (scale_shifted.calls t117 (wrap64 ((wrap64 (63 - t119)) + t120)) t121 t122 _ A9.out).mono ?_); rintro e w' ⟨rfl, ⟨nd, rfl⟩⟩; refine ⟨_, rfl, ?_⟩) | ((with_reducible refine gate_callee (f := 22) rfl ?_); refine goesL_ (some 37) rfl rfl Try.func22 (by kernel_rfl) rfl #[.int .u64 t121, .int .u64 t122, .int .u64 t118] rfl (by (try simp only [List.map_toArray, List.map_cons, List.map_nil]); first | done | rfl | (simp only [List.length_drop, List.length_take]; rfl)) ?_; (with_reducible refine (bits_Div64.calls k t121 t122 t118 t123 t124 _ A10.out).mono ?_); rintro e w' ⟨rfl, ⟨nd, rfl⟩⟩; refine ⟨_, rfl, ?_⟩) | ((with_reducible refine gate_callee (f := 23) rfl ?_); refine goesL_ (some 50) rfl rfl Try.func23 (by kernel_rfl) rfl #[.bool ((decide (a0 < 0)) != (decide (a1 < 0))), .int .u64 t123, .int .i64 (wrap64 (-(wrap64 ((wrap64 (63 - t119)) + t120)))), .bool (t124 != 0)] rfl (by (try simp only [List.map_toArray, List.map_cons, List.map_nil]); first | done | rfl | (simp only [List.length_drop, List.length_take]; rfl)) ?_; (with_reducible refine (scale_rounded.calls k ((decide (a0 < 0)) != (decide (a1 < 0))) t123 (wrap64 (-(wrap64 ((wrap64 (63 - t119)) + t120)))) (t124 != 0) t125 _ A11.out).mono ?_); rintro e w12 ⟨rfl, hb⟩; refine ⟨_, rfl, ?_⟩; have n0_ := Aside0.mk (below_step (by repeat (first | (with_reducible first | exact HB.out | apply below_alloc | apply pw_below_drewN | apply below_drew1) | exact HB.out)) hb); clear HB; have HB := n0_; clear n0_; (try clear hb); (try clear hb2); (try clear hk); (try clear hi)))
      go_ret2
      exact ⟨by first | rfl | (simp [errW_none, errW_some] <;> rfl) | (simp [*, errW_none, errW_some] <;> rfl), by repeat (first | (with_reducible first | exact HB.out | apply below_alloc | apply pw_below_drewN | apply below_drew1) | exact HB.out)⟩

/-! ### compasslaw02_ScaleNear: function 5 -/
def compasslaw02_ScaleNear.j0 : Nat → Int → Int → Bool → Option (Bool)
  | 0, _, _, _ => none
  | k + 1, x0, x1, x18 => if x18 = true then (some false) else ((scale_Quotient.f k (wrap64 (x0)) (wrap64 (x1))).bind fun bt128 => (if x1 = 0 then (if bt128.2 = 11 then (some (Go.FloatKind.f64.format.order bt128.1 0 == some .eq)) else (some false)) else (if bt128.2 = 0 then (if (wrap64 (x1)) = 0 then (none) else (if (Int.tmod (wrap64 (x0)) (wrap64 (x1))) = 0 then (some (Go.FloatKind.f64.format.order bt128.1 (Go.floatOfInt .f64 (wrap64 (Int.tdiv (wrap64 (x0)) (wrap64 (x1))))) == some .eq)) else (if (Go.floatBits .quo .f64 (Go.floatOfInt .f64 x0) (Go.floatOfInt .f64 x1)).isSome = true then (if (Go.FloatKind.f64.format.order bt128.1 ((Go.floatBits .quo .f64 (Go.floatOfInt .f64 x0) (Go.floatOfInt .f64 x1)).getD 0) == some .eq) = true then (some ((Go.FloatKind.f64.format.order bt128.1 0 == some .lt) == ((decide (x0 < 0)) != (decide (x1 < 0))))) else (some false)) else (none)))) else (some false))))
def compasslaw02_ScaleNear.f (k : Nat) (a0 : Int) (a1 : Int) : Option (Bool) := (scale_Quotient.f k 1 4).bind fun bt126 => (if (Go.FloatKind.f64.format.order bt126.1 4598175219545276416 != some .eq) = true then (compasslaw02_ScaleNear.j0 k a0 a1 true) else (compasslaw02_ScaleNear.j0 k a0 a1 (bt126.2 != 0)))
theorem compasslaw02_ScaleNear.mono_l : ∀ k, (∀ y0 y1 y2, LeO (compasslaw02_ScaleNear.j0 k y0 y1 y2) (compasslaw02_ScaleNear.j0 (k + 1) y0 y1 y2))
  | 0 => fun _ _ _ r h => by simp [compasslaw02_ScaleNear.j0] at h
  | k + 1 => by
    have ih0 := compasslaw02_ScaleNear.mono_l k
    · intro y0 y1 y2
      unfold compasslaw02_ScaleNear.j0
      repeat' first
      | (with_reducible exact ih0 _ _ _)
      | (with_reducible exact scale_Quotient.mono _ _ _)
      | (with_reducible exact LeO.refl _)
      | (with_reducible exact LeO.none _)
      | (with_reducible refine LeO.ite ?_ ?_)
      | (with_reducible refine LeO.bind ?_ (fun _ => ?_))
      | exact ih0 _ _ _
      | exact scale_Quotient.mono _ _ _
      | exact LeO.none _
      | refine LeO.ite ?_ ?_
      | refine LeO.bind ?_ (fun _ => ?_)
theorem compasslaw02_ScaleNear.mono : ∀ a0 a1 k, LeO (compasslaw02_ScaleNear.f k a0 a1) (compasslaw02_ScaleNear.f (k + 1) a0 a1) := by
  intro a0 a1 k
  have ih0 := compasslaw02_ScaleNear.mono_l k
  unfold compasslaw02_ScaleNear.f
  repeat' first
      | (with_reducible exact ih0 _ _ _)
      | (with_reducible exact scale_Quotient.mono _ _ _)
      | (with_reducible exact LeO.refl _)
      | (with_reducible exact LeO.none _)
      | (with_reducible refine LeO.ite ?_ ?_)
      | (with_reducible refine LeO.bind ?_ (fun _ => ?_))
      | exact ih0 _ _ _
      | exact scale_Quotient.mono _ _ _
      | exact LeO.none _
      | refine LeO.ite ?_ ?_
      | refine LeO.bind ?_ (fun _ => ?_)
set_option maxHeartbeats 8000000 in
set_option maxRecDepth 100000 in
theorem compasslaw02_ScaleNear.calls (k : Nat) (a0 : Int) (a1 : Int) (r : Bool) (w : World) (hr_ : r = true) (h : compasslaw02_ScaleNear.f k a0 a1 = some r) :
    Calls Try.prog 5 #[.int .i32 a0, .int .i32 a1] w fun e w' => e = .returned (.bool r) ∧ Below w.heap.size w w' := by
  have hxc21_24 := fun (n : Int) (w : World) => Go.run_convert_int_float (P := Try.prog) w 21 24 .i32 .f64 n (by kernel_rfl) Try.underlying24
  have hxc2_24 := fun (n : Int) (w : World) => Go.run_convert_int_float (P := Try.prog) w 2 24 .i64 .f64 n (by kernel_rfl) Try.underlying24
  have hxquo := @fquo_law Try.prog
  have HB := Aside0.mk (Below.refl w.heap.size w)
  have HR_ := Aside0.mk hr_
  clear hr_
  have H : ((scale_Quotient.f k 1 4).bind fun bt126 => (if (Go.FloatKind.f64.format.order bt126.1 4598175219545276416 != some .eq) = true then (compasslaw02_ScaleNear.j0 k a0 a1 true) else (compasslaw02_ScaleNear.j0 k a0 a1 (bt126.2 != 0)))) = some r := h
  clear h
  replace H := Option.bind_eq_some_iff.mp H
  obtain ⟨⟨t126, t127⟩, A30, H⟩ := H
  replace H : (if (Go.FloatKind.f64.format.order t126 4598175219545276416 != some .eq) = true then (compasslaw02_ScaleNear.j0 k a0 a1 true) else (compasslaw02_ScaleNear.j0 k a0 a1 (t127 != 0))) = some r := H
  have A3 := Aside0.mk A30
  clear A30
  have HC4 := Aside0.mk H
  clear H
  go_enter Try.func5, Try.ntmps5
  go_upto_region 2 with (first | ((with_reducible refine gate_callee (f := 13) rfl ?_); refine goesL_ (some 10) rfl rfl Try.func13 (by kernel_rfl) rfl #[.int .i64 1, .int .i64 4] rfl (by (try simp only [List.map_toArray, List.map_cons, List.map_nil]); first | done | rfl | (simp only [List.length_drop, List.length_take]; rfl)) ?_; (with_reducible refine (scale_Quotient.calls k 1 4 t126 t127 _ A3.out).mono ?_); rintro e w5 ⟨rfl, hb⟩; refine ⟨_, rfl, ?_⟩; have n0_ := Aside0.mk (below_step (by repeat (first | (with_reducible first | exact HB.out | apply below_alloc | apply pw_below_drewN | apply below_drew1) | exact HB.out)) hb); clear HB; have HB := n0_; clear n0_; (try clear hb); (try clear hb2); (try clear hk); (try clear hi)))
  (try simp only [Act.put, List.setIfInBounds_toArray, List.set_cons_zero, List.set_cons_succ])
  go_cut [18] (fun v18 wc => ∃ (kq : Nat) (x18_3 : Bool), v18 = .bool x18_3 ∧ Aside0 (compasslaw02_ScaleNear.j0 kq a0 a1 x18_3 = some r) ∧ Aside0 (kq ≤ k) ∧ Aside0 (Below w.heap.size w wc))
  case first =>
    have H := HC4.out
    clear HC4
    by_cases c6 : (Go.FloatKind.f64.format.order t126 4598175219545276416 != some .eq) = true
    · rw [if_pos c6] at H
      have c6b0 : (Go.FloatKind.f64.format.order t126 4598175219545276416 != some .eq) = true := c6
      (try (have c6b1 : decide (Go.FloatKind.f64.format.order t126 4598175219545276416 = some .eq) = false := by simpa using c6))
      (try (have c6b2 : (Go.FloatKind.f64.format.order t126 4598175219545276416 == some .eq) = false := by simpa using c6))
      (try (have c6b3 : ¬ (Go.FloatKind.f64.format.order t126 4598175219545276416 = some .eq) := by simpa using c6))
      clear c6
      (first | rw [c6b0] | (simp only [i64_w, i32_w]; rw [c6b0]) | skip)
      have H' := Aside0.mk H
      clear H
      go_wp2
      go_meet
      case rel => exact ⟨_, (true), (by first | rfl | (simp; done) | (simp [*]; done)), H', ⟨by first | omega | exact Nat.le_refl _⟩, ⟨by repeat (first | (with_reducible first | exact HB.out | apply below_alloc | apply pw_below_drewN | apply below_drew1) | exact HB.out)⟩⟩
    · rw [if_neg c6] at H
      have c6b0 : (Go.FloatKind.f64.format.order t126 4598175219545276416 != some .eq) = false := by simpa using c6
      (try (have c6b1 : decide (Go.FloatKind.f64.format.order t126 4598175219545276416 = some .eq) = true := by simpa using c6))
      (try (have c6b2 : (Go.FloatKind.f64.format.order t126 4598175219545276416 == some .eq) = true := by simpa using c6))
      clear c6
      (first | rw [c6b0] | (simp only [i64_w, i32_w]; rw [c6b0]) | skip)
      have H' := Aside0.mk H
      clear H
      go_wp2
      go_meet
      case rel => exact ⟨_, ((t127 != 0)), (by first | rfl | (simp; done) | (simp [*]; done)), H', ⟨by first | omega | exact Nat.le_refl _⟩, ⟨by repeat (first | (with_reducible first | exact HB.out | apply below_alloc | apply pw_below_drewN | apply below_drew1) | exact HB.out)⟩⟩
  case rest =>
    clear HC4
    try clear c1
    try clear p2
    try clear c5
    try clear c6
    try clear c6b0
    try clear c6b1
    try clear c6b2
    obtain ⟨kq, x18_3, rfl, HA, HJ3, HB⟩ := hcut
    cases kq with
    | zero => exact absurd HA.out (by simp [compasslaw02_ScaleNear.j0])
    | succ kj3 =>
      have H := HA.out
      clear HA
      simp only [compasslaw02_ScaleNear.j0] at H
      by_cases c7 : x18_3 = true
      · subst c7
        have H1 : (some false) = some r := by rw [if_pos rfl] at H; exact H
        clear H
        have H := H1
        clear H1
        exact absurd ((Option.some.inj H).trans HR_.out) (by decide)
      · replace c7 := Bool.eq_false_iff.mpr c7
        subst c7
        have H1 : ((scale_Quotient.f kj3 (wrap64 (a0)) (wrap64 (a1))).bind fun bt128 => (if a1 = 0 then (if bt128.2 = 11 then (some (Go.FloatKind.f64.format.order bt128.1 0 == some .eq)) else (some false)) else (if bt128.2 = 0 then (if (wrap64 (a1)) = 0 then (none) else (if (Int.tmod (wrap64 (a0)) (wrap64 (a1))) = 0 then (some (Go.FloatKind.f64.format.order bt128.1 (Go.floatOfInt .f64 (wrap64 (Int.tdiv (wrap64 (a0)) (wrap64 (a1))))) == some .eq)) else (if (Go.floatBits .quo .f64 (Go.floatOfInt .f64 a0) (Go.floatOfInt .f64 a1)).isSome = true then (if (Go.FloatKind.f64.format.order bt128.1 ((Go.floatBits .quo .f64 (Go.floatOfInt .f64 a0) (Go.floatOfInt .f64 a1)).getD 0) == some .eq) = true then (some ((Go.FloatKind.f64.format.order bt128.1 0 == some .lt) == ((decide (a0 < 0)) != (decide (a1 < 0))))) else (some false)) else (none)))) else (some false)))) = some r := by rw [if_neg (show ¬ (false = true) by decide)] at H; exact H
        clear H
        have H := H1
        clear H1
        replace H := Option.bind_eq_some_iff.mp H
        obtain ⟨⟨t128, t129⟩, A80, H⟩ := H
        replace H : (if a1 = 0 then (if t129 = 11 then (some (Go.FloatKind.f64.format.order t128 0 == some .eq)) else (some false)) else (if t129 = 0 then (if (wrap64 (a1)) = 0 then (none) else (if (Int.tmod (wrap64 (a0)) (wrap64 (a1))) = 0 then (some (Go.FloatKind.f64.format.order t128 (Go.floatOfInt .f64 (wrap64 (Int.tdiv (wrap64 (a0)) (wrap64 (a1))))) == some .eq)) else (if (Go.floatBits .quo .f64 (Go.floatOfInt .f64 a0) (Go.floatOfInt .f64 a1)).isSome = true then (if (Go.FloatKind.f64.format.order t128 ((Go.floatBits .quo .f64 (Go.floatOfInt .f64 a0) (Go.floatOfInt .f64 a1)).getD 0) == some .eq) = true then (some ((Go.FloatKind.f64.format.order t128 0 == some .lt) == ((decide (a0 < 0)) != (decide (a1 < 0))))) else (some false)) else (none)))) else (some false))) = some r := H
        have A8 := Aside0.mk A80
        clear A80
        by_cases c9 : a1 = 0
        · rw [if_pos c9] at H
          have c9b0 : (a1 == 0) = true := beq_iff_eq.mpr c9
          have c9b1 : (a1 != 0) = false := bne_eq_false_iff_eq.mpr c9
          clear c9
          by_cases c10 : t129 = 11
          · rw [if_pos c10] at H
            have c10b0 : (t129 == 11) = true := beq_iff_eq.mpr c10
            have c10b1 : (t129 != 11) = false := bne_eq_false_iff_eq.mpr c10
            clear c10
            obtain rfl := Option.some.inj H
            go_wp2_with (first | ((with_reducible refine gate_callee (f := 13) rfl ?_); refine goesL_ (some 24) rfl rfl Try.func13 (by kernel_rfl) rfl #[.int .i64 (wrap64 (a0)), .int .i64 (wrap64 (a1))] rfl (by (try simp only [List.map_toArray, List.map_cons, List.map_nil]); first | done | rfl | (simp only [List.length_drop, List.length_take]; rfl)) ?_; (with_reducible refine (scale_Quotient.calls kj3 (wrap64 (a0)) (wrap64 (a1)) t128 t129 _ A8.out).mono ?_); rintro e w11 ⟨rfl, hb⟩; refine ⟨_, rfl, ?_⟩; have n0_ := Aside0.mk (below_step (by repeat (first | (with_reducible first | exact HB.out | apply below_alloc | apply pw_below_drewN | apply below_drew1) | exact HB.out)) hb); clear HB; have HB := n0_; clear n0_; (try clear hb); (try clear hb2); (try clear hk); (try clear hi)))
            go_ret
            exact ⟨by first | rfl | (simp [errW_none, errW_some] <;> rfl) | (simp [*, errW_none, errW_some] <;> rfl), by repeat (first | (with_reducible first | exact HB.out | apply below_alloc | apply pw_below_drewN | apply below_drew1) | exact HB.out)⟩
          · rw [if_neg c10] at H
            have c10b0 : (t129 == 11) = false := beq_eq_false_iff_ne.mpr c10
            have c10b1 : (t129 != 11) = true := bne_iff_ne.mpr c10
            exact absurd ((Option.some.inj H).trans HR_.out) (by decide)
        · rw [if_neg c9] at H
          have c9b0 : (a1 == 0) = false := beq_eq_false_iff_ne.mpr c9
          have c9b1 : (a1 != 0) = true := bne_iff_ne.mpr c9
          by_cases c12 : t129 = 0
          · rw [if_pos c12] at H
            have c12b0 : (t129 == 0) = true := beq_iff_eq.mpr c12
            have c12b1 : (t129 != 0) = false := bne_eq_false_iff_eq.mpr c12
            clear c12
            by_cases c13 : (wrap64 (a1)) = 0
            · rw [if_pos c13] at H
              exact absurd H (by simp)
            · rw [if_neg c13] at H
              have c13b0 : ((wrap64 (a1)) == 0) = false := beq_eq_false_iff_ne.mpr c13
              have c13b1 : ((wrap64 (a1)) != 0) = true := bne_iff_ne.mpr c13
              by_cases c14 : (Int.tmod (wrap64 (a0)) (wrap64 (a1))) = 0
              · rw [if_pos c14] at H
                have c14b0 : ((Int.tmod (wrap64 (a0)) (wrap64 (a1))) == 0) = true := beq_iff_eq.mpr c14
                have c14b1 : ((Int.tmod (wrap64 (a0)) (wrap64 (a1))) != 0) = false := bne_eq_false_iff_eq.mpr c14
                clear c14
                obtain rfl := Option.some.inj H
                go_wp2_with (first | ((with_reducible refine gate_callee (f := 13) rfl ?_); refine goesL_ (some 24) rfl rfl Try.func13 (by kernel_rfl) rfl #[.int .i64 (wrap64 (a0)), .int .i64 (wrap64 (a1))] rfl (by (try simp only [List.map_toArray, List.map_cons, List.map_nil]); first | done | rfl | (simp only [List.length_drop, List.length_take]; rfl)) ?_; (with_reducible refine (scale_Quotient.calls kj3 (wrap64 (a0)) (wrap64 (a1)) t128 t129 _ A8.out).mono ?_); rintro e w15 ⟨rfl, hb⟩; refine ⟨_, rfl, ?_⟩; have n0_ := Aside0.mk (below_step (by repeat (first | (with_reducible first | exact HB.out | apply below_alloc | apply pw_below_drewN | apply below_drew1) | exact HB.out)) hb); clear HB; have HB := n0_; clear n0_; (try clear hb); (try clear hb2); (try clear hk); (try clear hi)))
                go_ret
                exact ⟨by first | rfl | (simp [errW_none, errW_some] <;> rfl) | (simp [*, errW_none, errW_some] <;> rfl), by repeat (first | (with_reducible first | exact HB.out | apply below_alloc | apply pw_below_drewN | apply below_drew1) | exact HB.out)⟩
              · rw [if_neg c14] at H
                have c14b0 : ((Int.tmod (wrap64 (a0)) (wrap64 (a1))) == 0) = false := beq_eq_false_iff_ne.mpr c14
                have c14b1 : ((Int.tmod (wrap64 (a0)) (wrap64 (a1))) != 0) = true := bne_iff_ne.mpr c14
                by_cases c16 : (Go.floatBits .quo .f64 (Go.floatOfInt .f64 a0) (Go.floatOfInt .f64 a1)).isSome = true
                · rw [if_pos c16] at H
                  have c16b0 := eq_true c16
                  have c16b1 : decide ((Go.floatBits .quo .f64 (Go.floatOfInt .f64 a0) (Go.floatOfInt .f64 a1)).isSome = true) = true := decide_eq_true c16
                  clear c16
                  by_cases c17 : (Go.FloatKind.f64.format.order t128 ((Go.floatBits .quo .f64 (Go.floatOfInt .f64 a0) (Go.floatOfInt .f64 a1)).getD 0) == some .eq) = true
                  · rw [if_pos c17] at H
                    have c17b0 : (Go.FloatKind.f64.format.order t128 ((Go.floatBits .quo .f64 (Go.floatOfInt .f64 a0) (Go.floatOfInt .f64 a1)).getD 0) == some .eq) = true := c17
                    (try (have c17b1 : decide (Go.FloatKind.f64.format.order t128 ((Go.floatBits .quo .f64 (Go.floatOfInt .f64 a0) (Go.floatOfInt .f64 a1)).getD 0) = some .eq) = true := by simpa using c17))
                    (try (have c17b2 : (Go.FloatKind.f64.format.order t128 ((Go.floatBits .quo .f64 (Go.floatOfInt .f64 a0) (Go.floatOfInt .f64 a1)).getD 0) == some .eq) = true := by simpa using c17))
                    clear c17
                    obtain rfl := Option.some.inj H
                    go_wp2_with (first | ((with_reducible refine gate_callee (f := 13) rfl ?_); refine goesL_ (some 24) rfl rfl Try.func13 (by kernel_rfl) rfl #[.int .i64 (wrap64 (a0)), .int .i64 (wrap64 (a1))] rfl (by (try simp only [List.map_toArray, List.map_cons, List.map_nil]); first | done | rfl | (simp only [List.length_drop, List.length_take]; rfl)) ?_; (with_reducible refine (scale_Quotient.calls kj3 (wrap64 (a0)) (wrap64 (a1)) t128 t129 _ A8.out).mono ?_); rintro e w18 ⟨rfl, hb⟩; refine ⟨_, rfl, ?_⟩; have n0_ := Aside0.mk (below_step (by repeat (first | (with_reducible first | exact HB.out | apply below_alloc | apply pw_below_drewN | apply below_drew1) | exact HB.out)) hb); clear HB; have HB := n0_; clear n0_; (try clear hb); (try clear hb2); (try clear hk); (try clear hi)))
                    go_ret
                    exact ⟨by first | rfl | (simp [errW_none, errW_some] <;> rfl) | (simp [*, errW_none, errW_some] <;> rfl), by repeat (first | (with_reducible first | exact HB.out | apply below_alloc | apply pw_below_drewN | apply below_drew1) | exact HB.out)⟩
                  · rw [if_neg c17] at H
                    have c17b0 : (Go.FloatKind.f64.format.order t128 ((Go.floatBits .quo .f64 (Go.floatOfInt .f64 a0) (Go.floatOfInt .f64 a1)).getD 0) == some .eq) = false := by simpa using c17
                    (try (have c17b1 : decide (Go.FloatKind.f64.format.order t128 ((Go.floatBits .quo .f64 (Go.floatOfInt .f64 a0) (Go.floatOfInt .f64 a1)).getD 0) = some .eq) = false := by simpa using c17))
                    (try (have c17b2 : (Go.FloatKind.f64.format.order t128 ((Go.floatBits .quo .f64 (Go.floatOfInt .f64 a0) (Go.floatOfInt .f64 a1)).getD 0) == some .eq) = false := by simpa using c17))
                    (try (have c17b3 : ¬ (Go.FloatKind.f64.format.order t128 ((Go.floatBits .quo .f64 (Go.floatOfInt .f64 a0) (Go.floatOfInt .f64 a1)).getD 0) = some .eq) := by simpa using c17))
                    clear c17
                    exact absurd ((Option.some.inj H).trans HR_.out) (by decide)
                · rw [if_neg c16] at H
                  exact absurd H (by simp)
          · rw [if_neg c12] at H
            have c12b0 : (t129 == 0) = false := beq_eq_false_iff_ne.mpr c12
            have c12b1 : (t129 != 0) = true := bne_iff_ne.mpr c12
            exact absurd ((Option.some.inj H).trans HR_.out) (by decide)

/-- THE ONE PURE STATEMENT of compasslaw02_ScaleNear: yours. -/
def compasslaw02_ScaleNear.Pure : Prop := ∀ (a0 : Int) (a1 : Int), (Lit.int .i32 a0).wf = true → (Lit.int .i32 a1).wf = true → ∃ k, compasslaw02_ScaleNear.f k a0 a1 = some true
theorem compasslaw02_ScaleNear.walk (P : compasslaw02_ScaleNear.Pure) (a0 : Int) (a1 : Int) (w : World) (w0 : (Lit.int .i32 a0).wf = true) (w1 : (Lit.int .i32 a1).wf = true) :
    Calls Try.prog 5 #[.int .i32 a0, .int .i32 a1] w fun e w' => e = .returned (.bool true) ∧ Below w.heap.size w w' := by
  obtain ⟨k, h⟩ := P a0 a1 w0 w1
  refine (compasslaw02_ScaleNear.calls k a0 a1 true w rfl h).mono ?_
  rintro e w' ⟨rfl, hd⟩
  exact ⟨rfl, hd⟩

end Go.Proofs.Ytdkhaibibpekoaa.Q
