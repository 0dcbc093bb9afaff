-- PRINTED by print.py (a twelfth state) out of the translation. Not trusted: Lean checks it.
import Derived.Test.YtdkhaibibpekoaaQ0
import Derived.Test.YtdkhaibibpekoaaQ1
import Derived.Test.YtdkhaibibpekoaaQ3
import Derived.Test.YtdkhaibibpekoaaQ4
import Derived.Test.YtdkhaibibpekoaaQ5
namespace Go.Proofs.Ytdkhaibibpekoaa.Q
open Go.RowKit Go.Proofs.YtdkhaibibpekoaaW.PrintWords Go.Proofs.YtdkhaibibpekoaaW.PrintLast Go.Proofs.YtdkhaibibpekoaaW.PrintMore
attribute [local go_sem] max2_int min2_int max_two min_two max_three min_three max_four min_four   -- for this text's walks alone
set_option linter.unusedVariables false
set_option linter.unusedSimpArgs false

/-! ### compasslaw02_ScaleOrders: function 4 -/
def compasslaw02_ScaleOrders.j0 : Nat → Int → Int → List Int → Bool → Option (Bool)
  | 0, _, _, _, _ => none
  | k + 1, x0, x1, x2, x17 => if x17 = true then (some false) else ((compasslaw02_floats.f k x2).bind fun t133 => ((scale_Least.f k t133).bind fun bt136 => ((compassref02_Least.f k x2).bind fun bt138 => ((scale_Strict.f k ((x0 : Int).toNat) ((x1 : Int).toNat)).bind fun t140 => ((compassref02_Strict.f k x0 x1).bind fun t141 => (if t140 = t141 then (if bt136.1 = bt138.1 then (some (bt136.2 == bt138.2)) else (some false)) else (some false)))))))
def compasslaw02_ScaleOrders.f (k : Nat) (a0 : Int) (a1 : Int) (l2 : List Int) : Option (Bool) := (scale_Strict.f k 4607182418800017408 4611686018427387904).bind fun t130 => (if t130 = (-1) then ((math_Copysign.f 0 13830554455654793216).bind fun t131 => ((scale_Strict.f k t131 0).bind fun t132 => (compasslaw02_ScaleOrders.j0 k a0 a1 l2 (t132 != (-1))))) else (compasslaw02_ScaleOrders.j0 k a0 a1 l2 true))
theorem compasslaw02_ScaleOrders.mono_l : ∀ k, (∀ y0 y1 y2 y3, LeO (compasslaw02_ScaleOrders.j0 k y0 y1 y2 y3) (compasslaw02_ScaleOrders.j0 (k + 1) y0 y1 y2 y3))
  | 0 => fun _ _ _ _ r h => by simp [compasslaw02_ScaleOrders.j0] at h
  | k + 1 => by
    have ih0 := compasslaw02_ScaleOrders.mono_l k
    · intro y0 y1 y2 y3
      unfold compasslaw02_ScaleOrders.j0
      repeat' first
      | (with_reducible exact ih0 _ _ _ _)
      | (with_reducible exact compasslaw02_floats.mono _ _)
      | (with_reducible exact compassref02_Least.mono _ _)
      | (with_reducible exact compassref02_Strict.mono _ _ _)
      | (with_reducible exact scale_Least.mono _ _)
      | (with_reducible exact scale_Strict.mono _ _ _)
      | (with_reducible exact LeO.refl _)
      | (with_reducible exact LeO.none _)
      | (with_reducible refine LeO.ite ?_ ?_)
      | (with_reducible refine LeO.bind ?_ (fun _ => ?_))
      | exact ih0 _ _ _ _
      | exact compasslaw02_floats.mono _ _
      | exact compassref02_Least.mono _ _
      | exact compassref02_Strict.mono _ _ _
      | exact scale_Least.mono _ _
      | exact scale_Strict.mono _ _ _
      | exact LeO.none _
      | refine LeO.ite ?_ ?_
      | refine LeO.bind ?_ (fun _ => ?_)
theorem compasslaw02_ScaleOrders.mono : ∀ a0 a1 a2 k, LeO (compasslaw02_ScaleOrders.f k a0 a1 a2) (compasslaw02_ScaleOrders.f (k + 1) a0 a1 a2) := by
  intro a0 a1 a2 k
  have ih0 := compasslaw02_ScaleOrders.mono_l k
  unfold compasslaw02_ScaleOrders.f
  repeat' first
      | (with_reducible exact ih0 _ _ _ _)
      | (with_reducible exact compasslaw02_floats.mono _ _)
      | (with_reducible exact compassref02_Least.mono _ _)
      | (with_reducible exact compassref02_Strict.mono _ _ _)
      | (with_reducible exact scale_Least.mono _ _)
      | (with_reducible exact scale_Strict.mono _ _ _)
      | (with_reducible exact LeO.refl _)
      | (with_reducible exact LeO.none _)
      | (with_reducible refine LeO.ite ?_ ?_)
      | (with_reducible refine LeO.bind ?_ (fun _ => ?_))
      | exact ih0 _ _ _ _
      | exact compasslaw02_floats.mono _ _
      | exact compassref02_Least.mono _ _
      | exact compassref02_Strict.mono _ _ _
      | exact scale_Least.mono _ _
      | exact scale_Strict.mono _ _ _
      | exact LeO.none _
      | refine LeO.ite ?_ ?_
      | refine LeO.bind ?_ (fun _ => ?_)
set_option maxHeartbeats 8000000 in
set_option maxRecDepth 100000 in
theorem compasslaw02_ScaleOrders.calls (k : Nat) (a0 : Int) (a1 : Int) (A2 : Option Addr) (c2 : Nat) (l2 : List Int) (r : Bool) (w : World) (hr2 : Kd.C (Kd.int .u64) w A2 l2.length l2) (hc2 : l2.length ≤ c2) (hr_ : r = true) (h : compasslaw02_ScaleOrders.f k a0 a1 l2 = some r) :
    Calls Try.prog 4 #[.int .u64 a0, .int .u64 a1, .slice A2 l2.length c2] w fun e w' => e = .returned (.bool r) ∧ Below w.heap.size w w' := by
  have hx8 := @ffrom_law
  have HR2 := Aside0.mk hr2
  have HC2 := Aside0.mk hc2
  clear hr2 hc2
  have HB := Aside0.mk (Below.refl w.heap.size w)
  have HR_ := Aside0.mk hr_
  clear hr_
  have H : ((scale_Strict.f k 4607182418800017408 4611686018427387904).bind fun t130 => (if t130 = (-1) then ((math_Copysign.f 0 13830554455654793216).bind fun t131 => ((scale_Strict.f k t131 0).bind fun t132 => (compasslaw02_ScaleOrders.j0 k a0 a1 l2 (t132 != (-1))))) else (compasslaw02_ScaleOrders.j0 k a0 a1 l2 true))) = some r := h
  clear h
  have HC4 := Aside0.mk H
  clear H
  go_enter Try.func4, Try.ntmps4
  go_upto_region 1 with (fail)
  go_cut [17] (fun v17 wc => ∃ (kq : Nat) (x17_3 : Bool), v17 = .bool x17_3 ∧ Aside0 (compasslaw02_ScaleOrders.j0 kq a0 a1 l2 x17_3 = some r) ∧ Aside0 (kq ≤ k) ∧ Aside0 (Below w.heap.size w wc))
  case first =>
    have H := HC4.out
    clear HC4
    replace H := Option.bind_eq_some_iff.mp H
    obtain ⟨t130, A50, H⟩ := H
    replace H : (if t130 = (-1) then ((math_Copysign.f 0 13830554455654793216).bind fun t131 => ((scale_Strict.f k t131 0).bind fun t132 => (compasslaw02_ScaleOrders.j0 k a0 a1 l2 (t132 != (-1))))) else (compasslaw02_ScaleOrders.j0 k a0 a1 l2 true)) = some r := H
    have A5 := Aside0.mk A50
    clear A50
    by_cases c6 : t130 = (-1)
    · rw [if_pos c6] at H
      have c6b0 : (t130 == (-1)) = true := beq_iff_eq.mpr c6
      have c6b1 : (t130 != (-1)) = false := bne_eq_false_iff_eq.mpr c6
      clear c6
      (first | rw [c6b0] | (simp only [i64_w, i32_w]; rw [c6b0]) | skip)
      replace H := Option.bind_eq_some_iff.mp H
      obtain ⟨t131, A70, H⟩ := H
      replace H : ((scale_Strict.f k t131 0).bind fun t132 => (compasslaw02_ScaleOrders.j0 k a0 a1 l2 (t132 != (-1)))) = some r := H
      have A7 := Aside0.mk A70
      clear A70
      replace H := Option.bind_eq_some_iff.mp H
      obtain ⟨t132, A80, H⟩ := H
      replace H : (compasslaw02_ScaleOrders.j0 k a0 a1 l2 (t132 != (-1))) = some r := H
      have A8 := Aside0.mk A80
      clear A80
      have H' := Aside0.mk H
      clear H
      go_wp2_with (first | ((with_reducible refine gate_callee (f := 6) rfl ?_); refine goesL_ (some 11) rfl rfl Try.func6 (by kernel_rfl) rfl #[.float .f64 4607182418800017408, .float .f64 4611686018427387904] rfl (by (try simp only [List.map_toArray, List.map_cons, List.map_nil]); first | done | rfl | (simp only [List.length_drop, List.length_take]; rfl)) ?_; (with_reducible refine (scale_Strict.calls k 4607182418800017408 4611686018427387904 t130 _ A5.out).mono ?_); rintro e w' ⟨rfl, ⟨nd, rfl⟩⟩; refine ⟨_, rfl, ?_⟩) | (go_at_call 7; (with_reducible refine (math_Copysign.calls 0 13830554455654793216 t131 _ A7.out).mono ?_); rintro e w' ⟨rfl, ⟨nd, rfl⟩⟩) | (go_at_call 6; (with_reducible refine (scale_Strict.calls k t131 0 t132 _ A8.out).mono ?_); rintro e w' ⟨rfl, ⟨nd, rfl⟩⟩))
      go_meet
      case rel => exact ⟨_, ((t132 != (-1))), (by first | rfl | (simp; done) | (simp [*]; done)), H', ⟨by first | omega | exact Nat.le_refl _⟩, ⟨by repeat (first | (with_reducible first | exact HB.out | apply below_alloc | apply pw_below_drewN | apply below_drew1) | exact HB.out)⟩⟩
    · rw [if_neg c6] at H
      have c6b0 : (t130 == (-1)) = false := beq_eq_false_iff_ne.mpr c6
      have c6b1 : (t130 != (-1)) = true := bne_iff_ne.mpr c6
      (first | rw [c6b0] | (simp only [i64_w, i32_w]; rw [c6b0]) | skip)
      have H' := Aside0.mk H
      clear H
      go_wp2_with (first | ((with_reducible refine gate_callee (f := 6) rfl ?_); refine goesL_ (some 11) rfl rfl Try.func6 (by kernel_rfl) rfl #[.float .f64 4607182418800017408, .float .f64 4611686018427387904] rfl (by (try simp only [List.map_toArray, List.map_cons, List.map_nil]); first | done | rfl | (simp only [List.length_drop, List.length_take]; rfl)) ?_; (with_reducible refine (scale_Strict.calls k 4607182418800017408 4611686018427387904 t130 _ A5.out).mono ?_); rintro e w' ⟨rfl, ⟨nd, rfl⟩⟩; refine ⟨_, rfl, ?_⟩))
      go_meet
      case rel => exact ⟨_, (true), (by first | rfl | (simp; done) | (simp [*]; done)), H', ⟨by first | omega | exact Nat.le_refl _⟩, ⟨by repeat (first | (with_reducible first | exact HB.out | apply below_alloc | apply pw_below_drewN | apply below_drew1) | exact HB.out)⟩⟩
  case rest =>
    clear HC4
    try clear c2
    try clear p2
    try clear c4
    try clear c6
    try clear c6b0
    try clear c6b1
    obtain ⟨kq, x17_3, rfl, HA, HJ3, HB⟩ := hcut
    cases kq with
    | zero => exact absurd HA.out (by simp [compasslaw02_ScaleOrders.j0])
    | succ kj3 =>
      have H := HA.out
      clear HA
      simp only [compasslaw02_ScaleOrders.j0] at H
      by_cases c9 : x17_3 = true
      · subst c9
        have H1 : (some false) = some r := by rw [if_pos rfl] at H; exact H
        clear H
        have H := H1
        clear H1
        exact absurd ((Option.some.inj H).trans HR_.out) (by decide)
      · replace c9 := Bool.eq_false_iff.mpr c9
        subst c9
        have H1 : ((compasslaw02_floats.f kj3 l2).bind fun t133 => ((scale_Least.f kj3 t133).bind fun bt136 => ((compassref02_Least.f kj3 l2).bind fun bt138 => ((scale_Strict.f kj3 ((a0 : Int).toNat) ((a1 : Int).toNat)).bind fun t140 => ((compassref02_Strict.f kj3 a0 a1).bind fun t141 => (if t140 = t141 then (if bt136.1 = bt138.1 then (some (bt136.2 == bt138.2)) else (some false)) else (some false))))))) = some r := by rw [if_neg (show ¬ (false = true) by decide)] at H; exact H
        clear H
        have H := H1
        clear H1
        replace H := Option.bind_eq_some_iff.mp H
        obtain ⟨t133, A100, H⟩ := H
        replace H : ((scale_Least.f kj3 t133).bind fun bt136 => ((compassref02_Least.f kj3 l2).bind fun bt138 => ((scale_Strict.f kj3 ((a0 : Int).toNat) ((a1 : Int).toNat)).bind fun t140 => ((compassref02_Strict.f kj3 a0 a1).bind fun t141 => (if t140 = t141 then (if bt136.1 = bt138.1 then (some (bt136.2 == bt138.2)) else (some false)) else (some false)))))) = some r := H
        have A10 := Aside0.mk A100
        clear A100
        replace H := Option.bind_eq_some_iff.mp H
        obtain ⟨⟨t136, t137⟩, A110, H⟩ := H
        replace H : ((compassref02_Least.f kj3 l2).bind fun bt138 => ((scale_Strict.f kj3 ((a0 : Int).toNat) ((a1 : Int).toNat)).bind fun t140 => ((compassref02_Strict.f kj3 a0 a1).bind fun t141 => (if t140 = t141 then (if t136 = bt138.1 then (some (t137 == bt138.2)) else (some false)) else (some false))))) = some r := H
        have A11 := Aside0.mk A110
        clear A110
        replace H := Option.bind_eq_some_iff.mp H
        obtain ⟨⟨t138, t139⟩, A120, H⟩ := H
        replace H : ((scale_Strict.f kj3 ((a0 : Int).toNat) ((a1 : Int).toNat)).bind fun t140 => ((compassref02_Strict.f kj3 a0 a1).bind fun t141 => (if t140 = t141 then (if t136 = t138 then (some (t137 == t139)) else (some false)) else (some false)))) = some r := H
        have A12 := Aside0.mk A120
        clear A120
        replace H := Option.bind_eq_some_iff.mp H
        obtain ⟨t140, A130, H⟩ := H
        replace H : ((compassref02_Strict.f kj3 a0 a1).bind fun t141 => (if t140 = t141 then (if t136 = t138 then (some (t137 == t139)) else (some false)) else (some false))) = some r := H
        have A13 := Aside0.mk A130
        clear A130
        replace H := Option.bind_eq_some_iff.mp H
        obtain ⟨t141, A140, H⟩ := H
        replace H : (if t140 = t141 then (if t136 = t138 then (some (t137 == t139)) else (some false)) else (some false)) = some r := H
        have A14 := Aside0.mk A140
        clear A140
        by_cases c15 : t140 = t141
        · rw [if_pos c15] at H
          have c15b0 : (t140 == t141) = true := beq_iff_eq.mpr c15
          have c15b1 : (t140 != t141) = false := bne_eq_false_iff_eq.mpr c15
          clear c15
          by_cases c16 : t136 = t138
          · rw [if_pos c16] at H
            have c16b0 : (t136 == t138) = true := beq_iff_eq.mpr c16
            have c16b1 : (t136 != t138) = false := bne_eq_false_iff_eq.mpr c16
            clear c16
            obtain rfl := Option.some.inj H
            go_wp2_with (first | ((with_reducible refine gate_callee (f := 10) rfl ?_); refine goesL_ (some 20) rfl rfl Try.func10 (by kernel_rfl) rfl #[.slice A2 l2.length c2] rfl (by (try simp only [List.map_toArray, List.map_cons, List.map_nil]); first | done | rfl | (simp only [List.length_drop, List.length_take]; rfl)) ?_; (with_reducible refine (compasslaw02_floats.calls kj3 _ _ l2 t133 _ ?side1 ?side2 A10.out).mono ?_); (case side1 => repeat (first | exact (Kd.C_below HR2.out HB.out) | (with_reducible refine Kd.C_alloc ?_ _) | (with_reducible refine Kd.C_drewN ?_ _) | (with_reducible refine Kd.C_drew ?_))); (case side2 => exact HC2.out); rintro e w17 ⟨v134, rfl, ho0, hb⟩; refine ⟨_, rfl, ?_⟩; have n0_ := Aside0.mk (Kd.R_lower ho0 (below_size (by repeat (first | (with_reducible first | exact HB.out | apply below_alloc | apply pw_below_drewN | apply below_drew1) | exact HB.out)))); have n1_ := Aside0.mk (below_step (by repeat (first | (with_reducible first | exact HB.out | apply below_alloc | apply pw_below_drewN | apply below_drew1) | exact HB.out)) hb); clear HB; have HO135 := n0_; have HB := n1_; clear n0_ n1_; (try clear hb); (try clear hb2); (try clear hk); (try clear hi); (try clear ho0); obtain ⟨Ao18, co18, eo18⟩ := Kd.R_slice HO135.out; subst eo18) | ((with_reducible refine gate_callee (f := 9) rfl ?_); refine goesL_ (some 21) rfl rfl Try.func9 (by kernel_rfl) rfl #[.slice Ao18 t133.length co18] rfl (by (try simp only [List.map_toArray, List.map_cons, List.map_nil]); first | done | rfl | (simp only [List.length_drop, List.length_take]; rfl)) ?_; (with_reducible refine (scale_Least.calls kj3 _ _ t133 t136 t137 _ ?side1 ?side2 A11.out).mono ?_); (case side1 => repeat (first | exact (Kd.R_reads' HO135.out).2.2 | (with_reducible refine Kd.C_alloc ?_ _) | (with_reducible refine Kd.C_drewN ?_ _) | (with_reducible refine Kd.C_drew ?_))); (case side2 => exact (Kd.R_reads' HO135.out).2.1); rintro e w' ⟨rfl, ⟨nd, rfl⟩⟩; refine ⟨_, rfl, ?_⟩) | ((with_reducible refine gate_callee (f := 11) rfl ?_); refine goesL_ (some 26) rfl rfl Try.func11 (by kernel_rfl) rfl #[.slice A2 l2.length c2] rfl (by (try simp only [List.map_toArray, List.map_cons, List.map_nil]); first | done | rfl | (simp only [List.length_drop, List.length_take]; rfl)) ?_; (with_reducible refine (compassref02_Least.calls kj3 _ _ l2 t138 t139 _ ?side1 ?side2 A12.out).mono ?_); (case side1 => repeat (first | exact (Kd.C_below HR2.out (by repeat (first | (with_reducible first | exact HB.out | apply below_alloc | apply pw_below_drewN | apply below_drew1) | exact HB.out))) | (with_reducible refine Kd.C_alloc ?_ _) | (with_reducible refine Kd.C_drewN ?_ _) | (with_reducible refine Kd.C_drew ?_))); (case side2 => exact HC2.out); rintro e w' ⟨rfl, ⟨nd, rfl⟩⟩; refine ⟨_, rfl, ?_⟩) | ((with_reducible refine gate_callee (f := 6) rfl ?_); refine goesL_ (some 33) rfl rfl Try.func6 (by kernel_rfl) rfl #[.float .f64 ((a0 : Int).toNat), .float .f64 ((a1 : Int).toNat)] rfl (by (try simp only [List.map_toArray, List.map_cons, List.map_nil]); first | done | rfl | (simp only [List.length_drop, List.length_take]; rfl)) ?_; (with_reducible refine (scale_Strict.calls kj3 ((a0 : Int).toNat) ((a1 : Int).toNat) t140 _ A13.out).mono ?_); rintro e w' ⟨rfl, ⟨nd, rfl⟩⟩; refine ⟨_, rfl, ?_⟩) | ((with_reducible refine gate_callee (f := 12) rfl ?_); refine goesL_ (some 36) rfl rfl Try.func12 (by kernel_rfl) rfl #[.int .u64 a0, .int .u64 a1] rfl (by (try simp only [List.map_toArray, List.map_cons, List.map_nil]); first | done | rfl | (simp only [List.length_drop, List.length_take]; rfl)) ?_; (with_reducible refine (compassref02_Strict.calls kj3 a0 a1 t141 _ A14.out).mono ?_); rintro e w' ⟨rfl, ⟨nd, rfl⟩⟩; refine ⟨_, rfl, ?_⟩))
            go_ret
            exact ⟨by first | rfl | (simp [errW_none, errW_some] <;> rfl) | (simp [*, errW_none, errW_some] <;> rfl), by repeat (first | (with_reducible first | exact HB.out | apply below_alloc | apply pw_below_drewN | apply below_drew1) | exact HB.out)⟩
          · rw [if_neg c16] at H
            have c16b0 : (t136 == t138) = false := beq_eq_false_iff_ne.mpr c16
            have c16b1 : (t136 != t138) = true := bne_iff_ne.mpr c16
            exact absurd ((Option.some.inj H).trans HR_.out) (by decide)
        · rw [if_neg c15] at H
          have c15b0 : (t140 == t141) = false := beq_eq_false_iff_ne.mpr c15
          have c15b1 : (t140 != t141) = true := bne_iff_ne.mpr c15
          exact absurd ((Option.some.inj H).trans HR_.out) (by decide)

/-- THE ONE PURE STATEMENT of compasslaw02_ScaleOrders: yours. -/
def compasslaw02_ScaleOrders.Pure : Prop := ∀ (a0 : Int) (a1 : Int) (l2 : List Int), (Lit.int .u64 a0).wf = true → (Lit.int .u64 a1).wf = true → l2.length ≤ maxLen → l2.length * 8 ≤ 140737488351232 → (∀ x ∈ l2, (Lit.int .u64 x).wf = true) → ∃ k, compasslaw02_ScaleOrders.f k a0 a1 l2 = some true
theorem compasslaw02_ScaleOrders.walk (P : compasslaw02_ScaleOrders.Pure) (a0 : Int) (a1 : Int) (a2 : Option Addr) (len2 cap2 : Nat) (z2 : List Int) (w : World) (w0 : (Lit.int .u64 a0).wf = true) (w1 : (Lit.int .u64 a1).wf = true) (w2 : (a2 = none ∧ len2 = 0 ∧ cap2 = 0 ∧ z2 = []) ∨ ∃ x, a2 = some x ∧ len2 ≤ cap2 ∧ cap2 ≤ maxLen ∧ z2.length = cap2 ∧ (∀ i, i < z2.length → w.cell? (x.add i) = some (.int .u64 (z2.getD i 0))) ∧ ∀ n ∈ z2, (Lit.int .u64 n).wf = true) (y2 : len2 * 8 ≤ 140737488351232) :
    Calls Try.prog 4 #[.int .u64 a0, .int .u64 a1, .slice a2 len2 cap2] w fun e w' => e = .returned (.bool true) ∧ Below w.heap.size w w' := by
  obtain ⟨l2, rfl, hr2, hm2, hw2, hc2⟩ := ReadsInt.ofRowC w2
  obtain ⟨k, h⟩ := P a0 a1 l2 w0 w1 hm2 y2 hw2
  refine (compasslaw02_ScaleOrders.calls k a0 a1 _ _ l2 true w (Kd.C_of_reads (d := (0 : Int)) (h1 := fun _ => rfl) hr2) hc2 rfl h).mono ?_
  rintro e w' ⟨rfl, hd⟩
  exact ⟨rfl, hd⟩

end Go.Proofs.Ytdkhaibibpekoaa.Q
