-- PRINTED by print.py (a twelfth state) out of the translation. Not trusted: Lean checks it.
import Derived.Test.YtdkhaibibpekoaaDoorQ0
import Derived.Test.YtdkhaibibpekoaaDoorQ4
namespace Go.Proofs.YtdkhaibibpekoaaDoor.Q
open Go.RowKit Go.Proofs.YtdkhaibibpekoaaDoorW.PrintWords Go.Proofs.YtdkhaibibpekoaaDoorW.PrintLast Go.Proofs.YtdkhaibibpekoaaDoorW.PrintMore
attribute [local go_sem] max2_int min2_int max_two min_two max_three min_three max_four min_four   -- for this text's walks alone
set_option linter.unusedVariables false
set_option linter.unusedSimpArgs false

/-! ### scale_rounded: function 23 -/
attribute [local go_sem] unary_neg_float   -- for this text's walks alone
mutual
def scale_rounded.j0 : Nat → Bool → Int → Int → Bool → Int → Int → Int → Option (Nat)
  | 0, _, _, _, _, _, _, _ => none
  | k + 1, x0, x1, x2, x3, x9, x10, x11 => if x9 < 64 then (if 0 ≤ x9 then (scale_rounded.j1 k x0 x2 x3 x9 x10 (shr .u64 x1 x9)) else (none)) else (scale_rounded.j1 k x0 x2 x3 x9 x10 x11)
def scale_rounded.j1 : Nat → Bool → Int → Bool → Int → Int → Int → Option (Nat)
  | 0, _, _, _, _, _, _ => none
  | k + 1, x0, x2, x3, x9, x10, x11 => if x9 ≤ 64 then (if x10 > 9223372036854775808 then (scale_rounded.j2 k x0 x2 x9 x11 true) else (if x10 = 9223372036854775808 then (if x3 = true then (scale_rounded.j2 k x0 x2 x9 x11 true) else (scale_rounded.j2 k x0 x2 x9 x11 ((Go.bits .and .u64 x11 1) == 1))) else (scale_rounded.j2 k x0 x2 x9 x11 false))) else (scale_rounded.j2 k x0 x2 x9 x11 false)
def scale_rounded.j2 : Nat → Bool → Int → Int → Int → Bool → Option (Nat)
  | 0, _, _, _, _, _ => none
  | k + 1, x0, x2, x9, x11, x52 => if x52 = true then ((math_Ldexp.f (Go.floatOfInt .f64 (IntKind.u64.wrap (x11 + 1))) (wrap64 (x2 + x9))).bind fun t145 => (if x0 = true then (some (Go.Op.negFloat .f64 t145)) else (some t145))) else ((math_Ldexp.f (Go.floatOfInt .f64 x11) (wrap64 (x2 + x9))).bind fun t146 => (if x0 = true then (some (Go.Op.negFloat .f64 t146)) else (some t146)))
end
def scale_rounded.f (k : Nat) (a0 : Bool) (a1 : Int) (a2 : Int) (a3 : Bool) : Option (Nat) := if a1 = 0 then (some 0) else ((bits_Len64.f a1).bind fun t144 => (if (mx (wrap64 (t144 - 53)) (wrap64 ((-1074) - a2))) > 0 then (if (mx (wrap64 (t144 - 53)) (wrap64 ((-1074) - a2))) ≤ 64 then (if 0 ≤ (wrap64 (64 - (mx (wrap64 (t144 - 53)) (wrap64 ((-1074) - a2))))) then (scale_rounded.j0 k a0 a1 a2 a3 (mx (wrap64 (t144 - 53)) (wrap64 ((-1074) - a2))) (shl .u64 a1 (wrap64 (64 - (mx (wrap64 (t144 - 53)) (wrap64 ((-1074) - a2)))))) 0) else (none)) else (scale_rounded.j0 k a0 a1 a2 a3 (mx (wrap64 (t144 - 53)) (wrap64 ((-1074) - a2))) 0 0)) else ((math_Ldexp.f (Go.floatOfInt .f64 a1) a2).bind fun t147 => (if a0 = true then (some (Go.Op.negFloat .f64 t147)) else (some t147)))))
theorem scale_rounded.mono_l : ∀ k, (∀ y0 y1 y2 y3 y4 y5 y6, LeO (scale_rounded.j0 k y0 y1 y2 y3 y4 y5 y6) (scale_rounded.j0 (k + 1) y0 y1 y2 y3 y4 y5 y6)) ∧ (∀ y0 y1 y2 y3 y4 y5, LeO (scale_rounded.j1 k y0 y1 y2 y3 y4 y5) (scale_rounded.j1 (k + 1) y0 y1 y2 y3 y4 y5)) ∧ (∀ y0 y1 y2 y3 y4, LeO (scale_rounded.j2 k y0 y1 y2 y3 y4) (scale_rounded.j2 (k + 1) y0 y1 y2 y3 y4))
  | 0 => ⟨fun _ _ _ _ _ _ _ r h => by simp [scale_rounded.j0] at h, fun _ _ _ _ _ _ r h => by simp [scale_rounded.j1] at h, fun _ _ _ _ _ r h => by simp [scale_rounded.j2] at h⟩
  | k + 1 => by
    obtain ⟨ih0, ih1, ih2⟩ := scale_rounded.mono_l k
    refine ⟨?_, ?_, ?_⟩
    · intro y0 y1 y2 y3 y4 y5 y6
      unfold scale_rounded.j0
      repeat' first
      | (with_reducible exact ih0 _ _ _ _ _ _ _)
      | (with_reducible exact ih1 _ _ _ _ _ _)
      | (with_reducible exact ih2 _ _ _ _ _)
      | (with_reducible exact LeO.refl _)
      | (with_reducible exact LeO.none _)
      | (with_reducible refine LeO.ite ?_ ?_)
      | (with_reducible refine LeO.bind ?_ (fun _ => ?_))
      | exact ih0 _ _ _ _ _ _ _
      | exact ih1 _ _ _ _ _ _
      | exact ih2 _ _ _ _ _
      | exact LeO.none _
      | refine LeO.ite ?_ ?_
      | refine LeO.bind ?_ (fun _ => ?_)
    · intro y0 y1 y2 y3 y4 y5
      unfold scale_rounded.j1
      repeat' first
      | (with_reducible exact ih0 _ _ _ _ _ _ _)
      | (with_reducible exact ih1 _ _ _ _ _ _)
      | (with_reducible exact ih2 _ _ _ _ _)
      | (with_reducible exact LeO.refl _)
      | (with_reducible exact LeO.none _)
      | (with_reducible refine LeO.ite ?_ ?_)
      | (with_reducible refine LeO.bind ?_ (fun _ => ?_))
      | exact ih0 _ _ _ _ _ _ _
      | exact ih1 _ _ _ _ _ _
      | exact ih2 _ _ _ _ _
      | exact LeO.none _
      | refine LeO.ite ?_ ?_
      | refine LeO.bind ?_ (fun _ => ?_)
    · intro y0 y1 y2 y3 y4
      unfold scale_rounded.j2
      repeat' first
      | (with_reducible exact ih0 _ _ _ _ _ _ _)
      | (with_reducible exact ih1 _ _ _ _ _ _)
      | (with_reducible exact ih2 _ _ _ _ _)
      | (with_reducible exact LeO.refl _)
      | (with_reducible exact LeO.none _)
      | (with_reducible refine LeO.ite ?_ ?_)
      | (with_reducible refine LeO.bind ?_ (fun _ => ?_))
      | exact ih0 _ _ _ _ _ _ _
      | exact ih1 _ _ _ _ _ _
      | exact ih2 _ _ _ _ _
      | exact LeO.none _
      | refine LeO.ite ?_ ?_
      | refine LeO.bind ?_ (fun _ => ?_)
theorem scale_rounded.mono : ∀ a0 a1 a2 a3 k, LeO (scale_rounded.f k a0 a1 a2 a3) (scale_rounded.f (k + 1) a0 a1 a2 a3) := by
  intro a0 a1 a2 a3 k
  obtain ⟨ih0, ih1, ih2⟩ := scale_rounded.mono_l k
  unfold scale_rounded.f
  repeat' first
      | (with_reducible exact ih0 _ _ _ _ _ _ _)
      | (with_reducible exact ih1 _ _ _ _ _ _)
      | (with_reducible exact ih2 _ _ _ _ _)
      | (with_reducible exact LeO.refl _)
      | (with_reducible exact LeO.none _)
      | (with_reducible refine LeO.ite ?_ ?_)
      | (with_reducible refine LeO.bind ?_ (fun _ => ?_))
      | exact ih0 _ _ _ _ _ _ _
      | exact ih1 _ _ _ _ _ _
      | exact ih2 _ _ _ _ _
      | exact LeO.none _
      | refine LeO.ite ?_ ?_
      | refine LeO.bind ?_ (fun _ => ?_)
set_option maxHeartbeats 8000000 in
set_option maxRecDepth 100000 in
theorem scale_rounded.calls (k : Nat) (a0 : Bool) (a1 : Int) (a2 : Int) (a3 : Bool) (r : Nat) (w : World) (h : scale_rounded.f k a0 a1 a2 a3 = some r) :
    Calls Tryd.prog 23 #[.bool a0, .int .u64 a1, .int .i64 a2, .bool a3] w fun e w' => e = .returned (.float .f64 r) ∧ Below w.heap.size w w' := by
  have hxc42_35 := fun (n : Int) (w : World) => Go.run_convert_int_float (P := Tryd.prog) w 42 35 .u64 .f64 n (by kernel_rfl) Tryd.underlying35
  have HB := Aside0.mk (Below.refl w.heap.size w)
  have H : (if a1 = 0 then (some 0) else ((bits_Len64.f a1).bind fun t144 => (if (mx (wrap64 (t144 - 53)) (wrap64 ((-1074) - a2))) > 0 then (if (mx (wrap64 (t144 - 53)) (wrap64 ((-1074) - a2))) ≤ 64 then (if 0 ≤ (wrap64 (64 - (mx (wrap64 (t144 - 53)) (wrap64 ((-1074) - a2))))) then (scale_rounded.j0 k a0 a1 a2 a3 (mx (wrap64 (t144 - 53)) (wrap64 ((-1074) - a2))) (shl .u64 a1 (wrap64 (64 - (mx (wrap64 (t144 - 53)) (wrap64 ((-1074) - a2)))))) 0) else (none)) else (scale_rounded.j0 k a0 a1 a2 a3 (mx (wrap64 (t144 - 53)) (wrap64 ((-1074) - a2))) 0 0)) else ((math_Ldexp.f (Go.floatOfInt .f64 a1) a2).bind fun t147 => (if a0 = true then (some (Go.Op.negFloat .f64 t147)) else (some t147)))))) = some r := h
  clear h
  by_cases c5 : a1 = 0
  · rw [if_pos c5] at H
    have c5b0 : (a1 == 0) = true := beq_iff_eq.mpr c5
    have c5b1 : (a1 != 0) = false := bne_eq_false_iff_eq.mpr c5
    clear c5
    obtain rfl := Option.some.inj H
    go_enter Tryd.func23, Tryd.ntmps23
    go_wp2
    go_ret
    exact ⟨by first | rfl | (simp [errW_none, errW_some] <;> rfl) | (simp [*, errW_none, errW_some] <;> rfl), by repeat (first | (with_reducible first | exact HB.out | apply below_alloc | apply pw_below_drewN | apply below_drew1) | exact HB.out)⟩
  · rw [if_neg c5] at H
    have c5b0 : (a1 == 0) = false := beq_eq_false_iff_ne.mpr c5
    have c5b1 : (a1 != 0) = true := bne_iff_ne.mpr c5
    replace H := Option.bind_eq_some_iff.mp H
    obtain ⟨t144, A60, H⟩ := H
    replace H : (if (mx (wrap64 (t144 - 53)) (wrap64 ((-1074) - a2))) > 0 then (if (mx (wrap64 (t144 - 53)) (wrap64 ((-1074) - a2))) ≤ 64 then (if 0 ≤ (wrap64 (64 - (mx (wrap64 (t144 - 53)) (wrap64 ((-1074) - a2))))) then (scale_rounded.j0 k a0 a1 a2 a3 (mx (wrap64 (t144 - 53)) (wrap64 ((-1074) - a2))) (shl .u64 a1 (wrap64 (64 - (mx (wrap64 (t144 - 53)) (wrap64 ((-1074) - a2)))))) 0) else (none)) else (scale_rounded.j0 k a0 a1 a2 a3 (mx (wrap64 (t144 - 53)) (wrap64 ((-1074) - a2))) 0 0)) else ((math_Ldexp.f (Go.floatOfInt .f64 a1) a2).bind fun t147 => (if a0 = true then (some (Go.Op.negFloat .f64 t147)) else (some t147)))) = some r := H
    have A6 := Aside0.mk A60
    clear A60
    obtain ⟨ji7, hji7⟩ : ∃ j_ : Int, (mx (wrap64 (t144 - 53)) (wrap64 ((-1074) - a2))) = j_ := ⟨_, rfl⟩
    replace H : (if (ji7) > 0 then (if (ji7) ≤ 64 then (if 0 ≤ (wrap64 (64 - (ji7))) then (scale_rounded.j0 k a0 a1 a2 a3 ji7 (shl .u64 a1 (wrap64 (64 - (ji7)))) 0) else (none)) else (scale_rounded.j0 k a0 a1 a2 a3 ji7 0 0)) else ((math_Ldexp.f (Go.floatOfInt .f64 a1) a2).bind fun t147 => (if a0 = true then (some (Go.Op.negFloat .f64 t147)) else (some t147)))) = some r := by first | (rw [hji7] at H; exact H) | (simp only [hji7] at H ⊢; exact H)
    (try rw [hji7] at A6)
    have hji7_ : (if (wrap64 (t144 - 53)) < (wrap64 ((-1074) - a2)) then (wrap64 ((-1074) - a2)) else (wrap64 (t144 - 53))) = ji7 := hji7
    by_cases c8 : (ji7) > 0
    · rw [if_pos c8] at H
      have c8b0 : decide (0 < (ji7)) = true := decide_eq_true c8
      clear c8
      have HC9 := Aside0.mk H
      clear H
      go_enter Tryd.func23, Tryd.ntmps23
      go_upto_if 25 with (first | ((with_reducible refine gate_callee (f := 27) rfl ?_); refine goesL_ (some 16) rfl rfl Tryd.func27 (by kernel_rfl) rfl #[.int .u64 a1] rfl (by (try simp only [List.map_toArray, List.map_cons, List.map_nil]); first | done | rfl | (simp only [List.length_drop, List.length_take]; rfl)) ?_; (with_reducible refine (bits_Len64.calls a1 t144 _ A6.out).mono ?_); rintro e w' ⟨rfl, ⟨nd, rfl⟩⟩; refine ⟨_, rfl, ?_⟩))
      (try simp only [Act.put, List.setIfInBounds_toArray, List.set_cons_zero, List.set_cons_succ])
      go_cut [10] (fun v10 wc => ∃ (kq : Nat) (x10_8 : Int), v10 = .int .u64 x10_8 ∧ Aside0 (scale_rounded.j0 kq a0 a1 a2 a3 ji7 x10_8 0 = some r) ∧ Aside0 (kq ≤ k) ∧ Aside0 (Below w.heap.size w wc))
      case first =>
        have H := HC9.out
        clear HC9
        by_cases c10 : (ji7) ≤ 64
        · rw [if_pos c10] at H
          have c10b0 : decide ((ji7) ≤ 64) = true := decide_eq_true c10
          clear c10
          (first | rw [c10b0] | (simp only [i64_w, i32_w]; rw [c10b0]) | skip)
          obtain ⟨ji11, hji11⟩ : ∃ j_ : Int, (wrap64 (64 - (ji7))) = j_ := ⟨_, rfl⟩
          replace H : (if 0 ≤ (ji11) then (scale_rounded.j0 k a0 a1 a2 a3 ji7 (shl .u64 a1 (ji11)) 0) else (none)) = some r := by first | (rw [hji11] at H; exact H) | (simp only [hji11] at H ⊢; exact H)
          have hji11w : (IntKind.i64.wrap (64 - (ji7))) = ji11 := (i64_w _).trans hji11
          by_cases c12 : 0 ≤ (ji11)
          · rw [if_pos c12] at H
            have c12b0 := eq_true c12
            have c12b1 : decide (0 ≤ (ji11)) = true := decide_eq_true c12
            clear c12
            obtain ⟨ji13, hji13⟩ : ∃ j_ : Int, (shl .u64 a1 (ji11)) = j_ := ⟨_, rfl⟩
            replace H : (scale_rounded.j0 k a0 a1 a2 a3 ji7 ji13 0) = some r := by first | (rw [hji13] at H; exact H) | (simp only [hji13] at H ⊢; exact H)
            have hji13_ : (IntKind.u64.wrap (a1 * 2 ^ min (ji11).toNat 64)) = ji13 := hji13
            have hji13z : (ji11) ≤ 64 → (IntKind.u64.wrap (a1 * 2 ^ (ji11).toNat)) = ji13 := shl_small hji13
            have H' := Aside0.mk H
            clear H
            go_wp2
            go_meet
            case rel => exact ⟨_, (ji13), (by first | rfl | (simp; done) | (simp only [← hji13] <;> (first | rfl | simp)) | (simp [*]; done)), H', ⟨by first | omega | exact Nat.le_refl _⟩, ⟨by repeat (first | (with_reducible first | exact HB.out | apply below_alloc | apply pw_below_drewN | apply below_drew1) | exact HB.out)⟩⟩
          · rw [if_neg c12] at H
            exact absurd H (by simp)
        · rw [if_neg c10] at H
          have c10b0 : decide ((ji7) ≤ 64) = false := decide_eq_false c10
          clear c10
          (first | rw [c10b0] | (simp only [i64_w, i32_w]; rw [c10b0]) | skip)
          have H' := Aside0.mk H
          clear H
          go_wp2
          go_meet
          case rel => exact ⟨_, (0), (by first | rfl | (simp; done) | (simp [*]; done)), H', ⟨by first | omega | exact Nat.le_refl _⟩, ⟨by repeat (first | (with_reducible first | exact HB.out | apply below_alloc | apply pw_below_drewN | apply below_drew1) | exact HB.out)⟩⟩
      case rest =>
        clear HC9
        try clear c1
        try clear c2
        try clear p2
        try clear c5
        try clear c5b0
        try clear c5b1
        try clear p6
        try clear c8
        try clear c8b0
        try clear c10
        try clear c10b0
        try clear c12
        try clear c12b0
        try clear c12b1
        obtain ⟨kq, x10_8, rfl, HA, HJ8, HB⟩ := hcut
        cases kq with
        | zero => exact absurd HA.out (by simp [scale_rounded.j0])
        | succ kj8 =>
          have H := HA.out
          clear HA
          simp only [scale_rounded.j0] at H
          have HC14 := Aside0.mk H
          clear H
          go_upto_if 31 with (fail)
          go_cut [11] (fun v11 wc => ∃ (kq : Nat) (x11_13 : Int), v11 = .int .u64 x11_13 ∧ Aside0 (scale_rounded.j1 kq a0 a2 a3 ji7 x10_8 x11_13 = some r) ∧ Aside0 (kq ≤ kj8) ∧ Aside0 (Below w.heap.size w wc))
          case first =>
            have H := HC14.out
            clear HC14
            by_cases c15 : ji7 < 64
            · rw [if_pos c15] at H
              have c15b0 : decide (ji7 < 64) = true := decide_eq_true c15
              clear c15
              (first | rw [c15b0] | (simp only [i64_w, i32_w]; rw [c15b0]) | skip)
              by_cases c16 : 0 ≤ ji7
              · rw [if_pos c16] at H
                have c16b0 := eq_true c16
                have c16b1 : decide (0 ≤ ji7) = true := decide_eq_true c16
                clear c16
                obtain ⟨ji17, hji17⟩ : ∃ j_ : Int, (shr .u64 a1 ji7) = j_ := ⟨_, rfl⟩
                replace H : (scale_rounded.j1 kj8 a0 a2 a3 ji7 x10_8 ji17) = some r := by first | (rw [hji17] at H; exact H) | (simp only [hji17] at H ⊢; exact H)
                have hji17_ : (a1 / 2 ^ min ji7.toNat 64) = ji17 := hji17
                have hji17z : ji7 ≤ 64 → (a1 / 2 ^ ji7.toNat) = ji17 := shr_small hji17
                have H' := Aside0.mk H
                clear H
                go_wp2
                go_meet
                case rel => exact ⟨_, (ji17), (by first | rfl | (simp; done) | (simp only [← hji17] <;> (first | rfl | simp)) | (simp [*]; done)), H', ⟨by have := HJ8.out; first | omega | exact Nat.le_refl _⟩, ⟨by repeat (first | (with_reducible first | exact HB.out | apply below_alloc | apply pw_below_drewN | apply below_drew1) | exact HB.out)⟩⟩
              · rw [if_neg c16] at H
                exact absurd H (by simp)
            · rw [if_neg c15] at H
              have c15b0 : decide (ji7 < 64) = false := decide_eq_false c15
              clear c15
              (first | rw [c15b0] | (simp only [i64_w, i32_w]; rw [c15b0]) | skip)
              have H' := Aside0.mk H
              clear H
              go_wp2
              go_meet
              case rel => exact ⟨_, (0), (by first | rfl | (simp; done) | (simp [*]; done)), H', ⟨by have := HJ8.out; first | omega | exact Nat.le_refl _⟩, ⟨by repeat (first | (with_reducible first | exact HB.out | apply below_alloc | apply pw_below_drewN | apply below_drew1) | exact HB.out)⟩⟩
          case rest =>
            clear HC14
            try clear c1
            try clear c2
            try clear p2
            try clear c5
            try clear c5b0
            try clear c5b1
            try clear p6
            try clear c8
            try clear c8b0
            try clear c10
            try clear c10b0
            try clear c12
            try clear c12b0
            try clear c12b1
            try clear c15
            try clear c15b0
            try clear c16
            try clear c16b0
            try clear c16b1
            try clear p2
            try clear p6
            obtain ⟨kq, x11_13, rfl, HA, HJ13, HB⟩ := hcut
            cases kq with
            | zero => exact absurd HA.out (by simp [scale_rounded.j1])
            | succ kj13 =>
              have H := HA.out
              clear HA
              simp only [scale_rounded.j1] at H
              have HC18 := Aside0.mk H
              clear H
              go_upto_region 11 with (fail)
              go_cut [52] (fun v52 wc => ∃ (kq : Nat) (x52_17 : Bool), v52 = .bool x52_17 ∧ Aside0 (scale_rounded.j2 kq a0 a2 ji7 x11_13 x52_17 = some r) ∧ Aside0 (kq ≤ kj13) ∧ Aside0 (Below w.heap.size w wc))
              case first =>
                have H := HC18.out
                clear HC18
                by_cases c19 : ji7 ≤ 64
                · rw [if_pos c19] at H
                  have c19b0 : decide (ji7 ≤ 64) = true := decide_eq_true c19
                  clear c19
                  (first | rw [c19b0] | (simp only [i64_w, i32_w]; rw [c19b0]) | skip)
                  by_cases c20 : x10_8 > 9223372036854775808
                  · rw [if_pos c20] at H
                    have c20b0 : decide (9223372036854775808 < x10_8) = true := decide_eq_true c20
                    clear c20
                    have H' := Aside0.mk H
                    clear H
                    go_wp2
                    go_meet
                    case rel => exact ⟨_, (true), (by first | rfl | (simp; done) | (simp [*]; done)), H', ⟨by have := HJ8.out; have := HJ13.out; first | omega | exact Nat.le_refl _⟩, ⟨by repeat (first | (with_reducible first | exact HB.out | apply below_alloc | apply pw_below_drewN | apply below_drew1) | exact HB.out)⟩⟩
                  · rw [if_neg c20] at H
                    have c20b0 : decide (9223372036854775808 < x10_8) = false := decide_eq_false c20
                    clear c20
                    by_cases c21 : x10_8 = 9223372036854775808
                    · rw [if_pos c21] at H
                      have c21b0 : (x10_8 == 9223372036854775808) = true := beq_iff_eq.mpr c21
                      have c21b1 : (x10_8 != 9223372036854775808) = false := bne_eq_false_iff_eq.mpr c21
                      clear c21
                      by_cases c22 : a3 = true
                      · subst c22
                        have H1 : (scale_rounded.j2 kj13 a0 a2 ji7 x11_13 true) = some r := by rw [if_pos rfl] at H; exact H
                        clear H
                        have H := H1
                        clear H1
                        have H' := Aside0.mk H
                        clear H
                        go_wp2
                        go_meet
                        case rel => exact ⟨_, (true), (by first | rfl | (simp; done) | (simp [*]; done)), H', ⟨by have := HJ8.out; have := HJ13.out; first | omega | exact Nat.le_refl _⟩, ⟨by repeat (first | (with_reducible first | exact HB.out | apply below_alloc | apply pw_below_drewN | apply below_drew1) | exact HB.out)⟩⟩
                      · replace c22 := Bool.eq_false_iff.mpr c22
                        subst c22
                        have H1 : (scale_rounded.j2 kj13 a0 a2 ji7 x11_13 ((Go.bits .and .u64 x11_13 1) == 1)) = some r := by rw [if_neg (show ¬ (false = true) by decide)] at H; exact H
                        clear H
                        have H := H1
                        clear H1
                        have H' := Aside0.mk H
                        clear H
                        go_wp2
                        go_meet
                        case rel => exact ⟨_, (((Go.bits .and .u64 x11_13 1) == 1)), (by first | rfl | (simp; done) | (simp [*]; done)), H', ⟨by have := HJ8.out; have := HJ13.out; first | omega | exact Nat.le_refl _⟩, ⟨by repeat (first | (with_reducible first | exact HB.out | apply below_alloc | apply pw_below_drewN | apply below_drew1) | exact HB.out)⟩⟩
                    · rw [if_neg c21] at H
                      have c21b0 : (x10_8 == 9223372036854775808) = false := beq_eq_false_iff_ne.mpr c21
                      have c21b1 : (x10_8 != 9223372036854775808) = true := bne_iff_ne.mpr c21
                      have H' := Aside0.mk H
                      clear H
                      go_wp2
                      go_meet
                      case rel => exact ⟨_, (false), (by first | rfl | (simp; done) | (simp [*]; done)), H', ⟨by have := HJ8.out; have := HJ13.out; first | omega | exact Nat.le_refl _⟩, ⟨by repeat (first | (with_reducible first | exact HB.out | apply below_alloc | apply pw_below_drewN | apply below_drew1) | exact HB.out)⟩⟩
                · rw [if_neg c19] at H
                  have c19b0 : decide (ji7 ≤ 64) = false := decide_eq_false c19
                  clear c19
                  (first | rw [c19b0] | (simp only [i64_w, i32_w]; rw [c19b0]) | skip)
                  have H' := Aside0.mk H
                  clear H
                  go_wp2
                  go_meet
                  case rel => exact ⟨_, (false), (by first | rfl | (simp; done) | (simp [*]; done)), H', ⟨by have := HJ8.out; have := HJ13.out; first | omega | exact Nat.le_refl _⟩, ⟨by repeat (first | (with_reducible first | exact HB.out | apply below_alloc | apply pw_below_drewN | apply below_drew1) | exact HB.out)⟩⟩
              case rest =>
                clear HC18
                try clear c1
                try clear c2
                try clear p2
                try clear c5
                try clear c5b0
                try clear c5b1
                try clear p6
                try clear c8
                try clear c8b0
                try clear c10
                try clear c10b0
                try clear c12
                try clear c12b0
                try clear c12b1
                try clear c15
                try clear c15b0
                try clear c16
                try clear c16b0
                try clear c16b1
                try clear c19
                try clear c19b0
                try clear c20
                try clear c20b0
                try clear c21
                try clear c21b0
                try clear c21b1
                try clear c22
                try clear p2
                try clear p6
                obtain ⟨kq, x52_17, rfl, HA, HJ17, HB⟩ := hcut
                cases kq with
                | zero => exact absurd HA.out (by simp [scale_rounded.j2])
                | succ kj17 =>
                  have H := HA.out
                  clear HA
                  simp only [scale_rounded.j2] at H
                  by_cases c23 : x52_17 = true
                  · subst c23
                    have H1 : ((math_Ldexp.f (Go.floatOfInt .f64 (IntKind.u64.wrap (x11_13 + 1))) (wrap64 (a2 + ji7))).bind fun t145 => (if a0 = true then (some (Go.Op.negFloat .f64 t145)) else (some t145))) = some r := by rw [if_pos rfl] at H; exact H
                    clear H
                    have H := H1
                    clear H1
                    replace H := Option.bind_eq_some_iff.mp H
                    obtain ⟨t145, A240, H⟩ := H
                    replace H : (if a0 = true then (some (Go.Op.negFloat .f64 t145)) else (some t145)) = some r := H
                    have A24 := Aside0.mk A240
                    clear A240
                    by_cases c25 : a0 = true
                    · subst c25
                      have H1 : (some (Go.Op.negFloat .f64 t145)) = some r := by rw [if_pos rfl] at H; exact H
                      clear H
                      have H := H1
                      clear H1
                      obtain rfl := Option.some.inj H
                      go_wp2_with (first | ((with_reducible refine gate_callee (f := 12) rfl ?_); refine goesL_ (some 62) rfl rfl Tryd.func12 (by kernel_rfl) rfl #[.float .f64 (Go.floatOfInt .f64 (IntKind.u64.wrap (x11_13 + 1))), .int .i64 (wrap64 (a2 + ji7))] rfl (by (try simp only [List.map_toArray, List.map_cons, List.map_nil]); first | done | (simp only [hji7]; rfl) | rfl | (simp only [List.length_drop, List.length_take]; rfl)) ?_; (with_reducible refine (math_Ldexp.calls (Go.floatOfInt .f64 (IntKind.u64.wrap (x11_13 + 1))) (wrap64 (a2 + ji7)) t145 _ A24.out).mono ?_); rintro e w' ⟨rfl, ⟨nd, rfl⟩⟩; refine ⟨_, rfl, ?_⟩))
                      go_ret
                      exact ⟨by first | rfl | (simp [errW_none, errW_some] <;> rfl) | (simp only [← hji7]; first | rfl | (simp [errW_none, errW_some] <;> rfl)) | (simp [*, errW_none, errW_some] <;> rfl), by repeat (first | (with_reducible first | exact HB.out | apply below_alloc | apply pw_below_drewN | apply below_drew1) | exact HB.out)⟩
                    · replace c25 := Bool.eq_false_iff.mpr c25
                      subst c25
                      have H1 : (some t145) = some r := by rw [if_neg (show ¬ (false = true) by decide)] at H; exact H
                      clear H
                      have H := H1
                      clear H1
                      obtain rfl := Option.some.inj H
                      go_wp2_with (first | ((with_reducible refine gate_callee (f := 12) rfl ?_); refine goesL_ (some 62) rfl rfl Tryd.func12 (by kernel_rfl) rfl #[.float .f64 (Go.floatOfInt .f64 (IntKind.u64.wrap (x11_13 + 1))), .int .i64 (wrap64 (a2 + ji7))] rfl (by (try simp only [List.map_toArray, List.map_cons, List.map_nil]); first | done | (simp only [hji7]; rfl) | rfl | (simp only [List.length_drop, List.length_take]; rfl)) ?_; (with_reducible refine (math_Ldexp.calls (Go.floatOfInt .f64 (IntKind.u64.wrap (x11_13 + 1))) (wrap64 (a2 + ji7)) t145 _ A24.out).mono ?_); rintro e w' ⟨rfl, ⟨nd, rfl⟩⟩; refine ⟨_, rfl, ?_⟩))
                      go_ret
                      exact ⟨by first | rfl | (simp [errW_none, errW_some] <;> rfl) | (simp only [← hji7]; first | rfl | (simp [errW_none, errW_some] <;> rfl)) | (simp [*, errW_none, errW_some] <;> rfl), by repeat (first | (with_reducible first | exact HB.out | apply below_alloc | apply pw_below_drewN | apply below_drew1) | exact HB.out)⟩
                  · replace c23 := Bool.eq_false_iff.mpr c23
                    subst c23
                    have H1 : ((math_Ldexp.f (Go.floatOfInt .f64 x11_13) (wrap64 (a2 + ji7))).bind fun t146 => (if a0 = true then (some (Go.Op.negFloat .f64 t146)) else (some t146))) = some r := by rw [if_neg (show ¬ (false = true) by decide)] at H; exact H
                    clear H
                    have H := H1
                    clear H1
                    replace H := Option.bind_eq_some_iff.mp H
                    obtain ⟨t146, A260, H⟩ := H
                    replace H : (if a0 = true then (some (Go.Op.negFloat .f64 t146)) else (some t146)) = some r := H
                    have A26 := Aside0.mk A260
                    clear A260
                    by_cases c27 : a0 = true
                    · subst c27
                      have H1 : (some (Go.Op.negFloat .f64 t146)) = some r := by rw [if_pos rfl] at H; exact H
                      clear H
                      have H := H1
                      clear H1
                      obtain rfl := Option.some.inj H
                      go_wp2_with (first | ((with_reducible refine gate_callee (f := 12) rfl ?_); refine goesL_ (some 62) rfl rfl Tryd.func12 (by kernel_rfl) rfl #[.float .f64 (Go.floatOfInt .f64 x11_13), .int .i64 (wrap64 (a2 + ji7))] rfl (by (try simp only [List.map_toArray, List.map_cons, List.map_nil]); first | done | (simp only [hji7]; rfl) | rfl | (simp only [List.length_drop, List.length_take]; rfl)) ?_; (with_reducible refine (math_Ldexp.calls (Go.floatOfInt .f64 x11_13) (wrap64 (a2 + ji7)) t146 _ A26.out).mono ?_); rintro e w' ⟨rfl, ⟨nd, rfl⟩⟩; refine ⟨_, rfl, ?_⟩))
                      go_ret
                      exact ⟨by first | rfl | (simp [errW_none, errW_some] <;> rfl) | (simp only [← hji7]; first | rfl | (simp [errW_none, errW_some] <;> rfl)) | (simp [*, errW_none, errW_some] <;> rfl), by repeat (first | (with_reducible first | exact HB.out | apply below_alloc | apply pw_below_drewN | apply below_drew1) | exact HB.out)⟩
                    · replace c27 := Bool.eq_false_iff.mpr c27
                      subst c27
                      have H1 : (some t146) = some r := by rw [if_neg (show ¬ (false = true) by decide)] at H; exact H
                      clear H
                      have H := H1
                      clear H1
                      obtain rfl := Option.some.inj H
                      go_wp2_with (first | ((with_reducible refine gate_callee (f := 12) rfl ?_); refine goesL_ (some 62) rfl rfl Tryd.func12 (by kernel_rfl) rfl #[.float .f64 (Go.floatOfInt .f64 x11_13), .int .i64 (wrap64 (a2 + ji7))] rfl (by (try simp only [List.map_toArray, List.map_cons, List.map_nil]); first | done | (simp only [hji7]; rfl) | rfl | (simp only [List.length_drop, List.length_take]; rfl)) ?_; (with_reducible refine (math_Ldexp.calls (Go.floatOfInt .f64 x11_13) (wrap64 (a2 + ji7)) t146 _ A26.out).mono ?_); rintro e w' ⟨rfl, ⟨nd, rfl⟩⟩; refine ⟨_, rfl, ?_⟩))
                      go_ret
                      exact ⟨by first | rfl | (simp [errW_none, errW_some] <;> rfl) | (simp only [← hji7]; first | rfl | (simp [errW_none, errW_some] <;> rfl)) | (simp [*, errW_none, errW_some] <;> rfl), by repeat (first | (with_reducible first | exact HB.out | apply below_alloc | apply pw_below_drewN | apply below_drew1) | exact HB.out)⟩
    · rw [if_neg c8] at H
      have c8b0 : decide (0 < (ji7)) = false := decide_eq_false c8
      clear c8
      replace H := Option.bind_eq_some_iff.mp H
      obtain ⟨t147, A280, H⟩ := H
      replace H : (if a0 = true then (some (Go.Op.negFloat .f64 t147)) else (some t147)) = some r := H
      have A28 := Aside0.mk A280
      clear A280
      by_cases c29 : a0 = true
      · subst c29
        have H1 : (some (Go.Op.negFloat .f64 t147)) = some r := by rw [if_pos rfl] at H; exact H
        clear H
        have H := H1
        clear H1
        obtain rfl := Option.some.inj H
        go_enter Tryd.func23, Tryd.ntmps23
        go_wp2_with (first | ((with_reducible refine gate_callee (f := 27) rfl ?_); refine goesL_ (some 16) rfl rfl Tryd.func27 (by kernel_rfl) rfl #[.int .u64 a1] rfl (by (try simp only [List.map_toArray, List.map_cons, List.map_nil]); first | done | rfl | (simp only [List.length_drop, List.length_take]; rfl)) ?_; (with_reducible refine (bits_Len64.calls a1 t144 _ A6.out).mono ?_); rintro e w' ⟨rfl, ⟨nd, rfl⟩⟩; refine ⟨_, rfl, ?_⟩) | ((with_reducible refine gate_callee (f := 12) rfl ?_); refine goesL_ (some 62) rfl rfl Tryd.func12 (by kernel_rfl) rfl #[.float .f64 (Go.floatOfInt .f64 a1), .int .i64 a2] rfl (by (try simp only [List.map_toArray, List.map_cons, List.map_nil]); first | done | rfl | (simp only [List.length_drop, List.length_take]; rfl)) ?_; (with_reducible refine (math_Ldexp.calls (Go.floatOfInt .f64 a1) a2 t147 _ A28.out).mono ?_); rintro e w' ⟨rfl, ⟨nd, rfl⟩⟩; refine ⟨_, rfl, ?_⟩))
        go_ret
        exact ⟨by first | rfl | (simp [errW_none, errW_some] <;> rfl) | (simp only [← hji7]; first | rfl | (simp [errW_none, errW_some] <;> rfl)) | (simp [*, errW_none, errW_some] <;> rfl), by repeat (first | (with_reducible first | exact HB.out | apply below_alloc | apply pw_below_drewN | apply below_drew1) | exact HB.out)⟩
      · replace c29 := Bool.eq_false_iff.mpr c29
        subst c29
        have H1 : (some t147) = some r := by rw [if_neg (show ¬ (false = true) by decide)] at H; exact H
        clear H
        have H := H1
        clear H1
        obtain rfl := Option.some.inj H
        go_enter Tryd.func23, Tryd.ntmps23
        go_wp2_with (first | ((with_reducible refine gate_callee (f := 27) rfl ?_); refine goesL_ (some 16) rfl rfl Tryd.func27 (by kernel_rfl) rfl #[.int .u64 a1] rfl (by (try simp only [List.map_toArray, List.map_cons, List.map_nil]); first | done | rfl | (simp only [List.length_drop, List.length_take]; rfl)) ?_; (with_reducible refine (bits_Len64.calls a1 t144 _ A6.out).mono ?_); rintro e w' ⟨rfl, ⟨nd, rfl⟩⟩; refine ⟨_, rfl, ?_⟩) | ((with_reducible refine gate_callee (f := 12) rfl ?_); refine goesL_ (some 62) rfl rfl Tryd.func12 (by kernel_rfl) rfl #[.float .f64 (Go.floatOfInt .f64 a1), .int .i64 a2] rfl (by (try simp only [List.map_toArray, List.map_cons, List.map_nil]); first | done | rfl | (simp only [List.length_drop, List.length_take]; rfl)) ?_; (with_reducible refine (math_Ldexp.calls (Go.floatOfInt .f64 a1) a2 t147 _ A28.out).mono ?_); rintro e w' ⟨rfl, ⟨nd, rfl⟩⟩; refine ⟨_, rfl, ?_⟩))
        go_ret
        exact ⟨by first | rfl | (simp [errW_none, errW_some] <;> rfl) | (simp only [← hji7]; first | rfl | (simp [errW_none, errW_some] <;> rfl)) | (simp [*, errW_none, errW_some] <;> rfl), by repeat (first | (with_reducible first | exact HB.out | apply below_alloc | apply pw_below_drewN | apply below_drew1) | exact HB.out)⟩

end Go.Proofs.YtdkhaibibpekoaaDoor.Q
