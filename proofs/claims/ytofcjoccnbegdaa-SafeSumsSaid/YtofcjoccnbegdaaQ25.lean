-- PRINTED by print.py (a twelfth state) out of the translation. Not trusted: Lean checks it.
import Derived.Test.YtofcjoccnbegdaaQ0
import Derived.Test.YtofcjoccnbegdaaQ16
import Derived.Test.YtofcjoccnbegdaaQ22
import Derived.Test.YtofcjoccnbegdaaQ23
import Derived.Test.YtofcjoccnbegdaaQ24
namespace Go.Proofs.Ytofcjoccnbegdaa.Q
open Go.RowKit Go.Proofs.YtofcjoccnbegdaaW.PrintWords Go.Proofs.YtofcjoccnbegdaaW.PrintLast Go.Proofs.YtofcjoccnbegdaaW.PrintMore
attribute [local go_sem] max2_int min2_int max_two min_two max_three min_three max_four min_four   -- for this text's walks alone
set_option linter.unusedVariables false
set_option linter.unusedSimpArgs false

/-! ### compasslaw01_SafeSums: function 9 -/
def compasslaw01_SafeSums.f (k : Nat) (l0 : List Int) (a1 : Int) : Option (Bool) := (compasslaw01_awake.f).bind fun t549 => (if t549 = true then ((safeint_Sum.f l0).bind fun bt550 => ((compassref01_Sum.f k l0).bind fun bt552 => ((safeint_Poly.f l0 a1).bind fun bt554 => ((compassref01_Poly.f k l0 a1).bind fun bt556 => (if bt550.1 = bt552.1 then (if bt550.2 = bt552.2 then (if bt554.1 = bt556.1 then (some (bt554.2 == bt556.2)) else (some false)) else (some false)) else (some false)))))) else (some false))
theorem compasslaw01_SafeSums.mono : ∀ a0 a1 k, LeO (compasslaw01_SafeSums.f k a0 a1) (compasslaw01_SafeSums.f (k + 1) a0 a1) := by
  intro a0 a1 k
  unfold compasslaw01_SafeSums.f
  repeat' first
      | (with_reducible exact compassref01_Poly.mono _ _ _)
      | (with_reducible exact compassref01_Sum.mono _ _)
      | (with_reducible exact LeO.refl _)
      | (with_reducible exact LeO.none _)
      | (with_reducible refine LeO.ite ?_ ?_)
      | (with_reducible refine LeO.bind ?_ (fun _ => ?_))
      | exact compassref01_Poly.mono _ _ _
      | exact compassref01_Sum.mono _ _
      | exact LeO.none _
      | refine LeO.ite ?_ ?_
      | refine LeO.bind ?_ (fun _ => ?_)
set_option maxHeartbeats 8000000 in
set_option maxRecDepth 100000 in
theorem compasslaw01_SafeSums.calls (k : Nat) (A0 : Option Addr) (c0 : Nat) (l0 : List Int) (a1 : Int) (r : Bool) (w : World) (hr0 : Kd.C (Kd.int .i64) w A0 l0.length l0) (hc0 : l0.length ≤ c0) (hr_ : r = true) (h : compasslaw01_SafeSums.f k l0 a1 = some r) :
    Calls Try.prog 9 #[.slice A0 l0.length c0, .int .i64 a1] w fun e w' => e = .returned (.bool r) ∧ Below w.heap.size w w' := by
  have HR0 := Aside0.mk hr0
  have HC0 := Aside0.mk hc0
  clear hr0 hc0
  have HB := Aside0.mk (Below.refl w.heap.size w)
  have HR_ := Aside0.mk hr_
  clear hr_
  have H : ((compasslaw01_awake.f).bind fun t549 => (if t549 = true then ((safeint_Sum.f l0).bind fun bt550 => ((compassref01_Sum.f k l0).bind fun bt552 => ((safeint_Poly.f l0 a1).bind fun bt554 => ((compassref01_Poly.f k l0 a1).bind fun bt556 => (if bt550.1 = bt552.1 then (if bt550.2 = bt552.2 then (if bt554.1 = bt556.1 then (some (bt554.2 == bt556.2)) else (some false)) else (some false)) else (some false)))))) else (some false))) = some r := h
  clear h
  replace H := Option.bind_eq_some_iff.mp H
  obtain ⟨t549, A30, H⟩ := H
  replace H : (if t549 = true then ((safeint_Sum.f l0).bind fun bt550 => ((compassref01_Sum.f k l0).bind fun bt552 => ((safeint_Poly.f l0 a1).bind fun bt554 => ((compassref01_Poly.f k l0 a1).bind fun bt556 => (if bt550.1 = bt552.1 then (if bt550.2 = bt552.2 then (if bt554.1 = bt556.1 then (some (bt554.2 == bt556.2)) else (some false)) else (some false)) else (some false)))))) else (some false)) = some r := H
  have A3 := Aside0.mk A30
  clear A30
  by_cases c4 : t549 = true
  · subst c4
    have H1 : ((safeint_Sum.f l0).bind fun bt550 => ((compassref01_Sum.f k l0).bind fun bt552 => ((safeint_Poly.f l0 a1).bind fun bt554 => ((compassref01_Poly.f k l0 a1).bind fun bt556 => (if bt550.1 = bt552.1 then (if bt550.2 = bt552.2 then (if bt554.1 = bt556.1 then (some (bt554.2 == bt556.2)) else (some false)) else (some false)) else (some false)))))) = some r := by rw [if_pos rfl] at H; exact H
    clear H
    have H := H1
    clear H1
    replace H := Option.bind_eq_some_iff.mp H
    obtain ⟨⟨t550, t551⟩, A50, H⟩ := H
    replace H : ((compassref01_Sum.f k l0).bind fun bt552 => ((safeint_Poly.f l0 a1).bind fun bt554 => ((compassref01_Poly.f k l0 a1).bind fun bt556 => (if t550 = bt552.1 then (if t551 = bt552.2 then (if bt554.1 = bt556.1 then (some (bt554.2 == bt556.2)) else (some false)) else (some false)) else (some false))))) = some r := H
    have A5 := Aside0.mk A50
    clear A50
    replace H := Option.bind_eq_some_iff.mp H
    obtain ⟨⟨t552, t553⟩, A60, H⟩ := H
    replace H : ((safeint_Poly.f l0 a1).bind fun bt554 => ((compassref01_Poly.f k l0 a1).bind fun bt556 => (if t550 = t552 then (if t551 = t553 then (if bt554.1 = bt556.1 then (some (bt554.2 == bt556.2)) else (some false)) else (some false)) else (some false)))) = some r := H
    have A6 := Aside0.mk A60
    clear A60
    replace H := Option.bind_eq_some_iff.mp H
    obtain ⟨⟨t554, t555⟩, A70, H⟩ := H
    replace H : ((compassref01_Poly.f k l0 a1).bind fun bt556 => (if t550 = t552 then (if t551 = t553 then (if t554 = bt556.1 then (some (t555 == bt556.2)) else (some false)) else (some false)) else (some false))) = some r := H
    have A7 := Aside0.mk A70
    clear A70
    replace H := Option.bind_eq_some_iff.mp H
    obtain ⟨⟨t556, t557⟩, A80, H⟩ := H
    replace H : (if t550 = t552 then (if t551 = t553 then (if t554 = t556 then (some (t555 == t557)) else (some false)) else (some false)) else (some false)) = some r := H
    have A8 := Aside0.mk A80
    clear A80
    by_cases c9 : t550 = t552
    · rw [if_pos c9] at H
      have c9b0 : (t550 == t552) = true := beq_iff_eq.mpr c9
      have c9b1 : (t550 != t552) = false := bne_eq_false_iff_eq.mpr c9
      clear c9
      by_cases c10 : t551 = t553
      · rw [if_pos c10] at H
        have c10b0 : (t551 == t553) = true := beq_iff_eq.mpr c10
        have c10b1 : (t551 != t553) = false := bne_eq_false_iff_eq.mpr c10
        clear c10
        by_cases c11 : t554 = t556
        · rw [if_pos c11] at H
          have c11b0 : (t554 == t556) = true := beq_iff_eq.mpr c11
          have c11b1 : (t554 != t556) = false := bne_eq_false_iff_eq.mpr c11
          clear c11
          obtain rfl := Option.some.inj H
          go_enter Try.func9, Try.ntmps9
          go_wp2_with (first | ((with_reducible refine gate_callee (f := 21) rfl ?_); refine goesL_ (some 13) rfl rfl Try.func21 (by kernel_rfl) rfl #[] rfl (by (try simp only [List.map_toArray, List.map_cons, List.map_nil]); first | done | rfl | (simp only [List.length_drop, List.length_take]; rfl) | (simp only [*]; rfl) | (simp [*]; done) | (simp [*]; (repeat' apply And.intro) <;> rfl)) ?_; (with_reducible refine (compasslaw01_awake.calls  true _ A3.out).mono ?_); rintro e w12 ⟨rfl, hb⟩; refine ⟨_, rfl, ?_⟩; have n0_ := Aside0.mk (below_step (by repeat (first | (with_reducible first | exact HB.out | apply below_alloc | apply pw_below_drewN | apply below_drew1) | exact HB.out)) hb); clear HB; have HB := n0_; clear n0_; (try clear hb); (try clear hb2); (try clear hk); (try clear hi)) | ((with_reducible refine gate_callee (f := 33) rfl ?_); refine goesL_ (some 17) rfl rfl Try.func33 (by kernel_rfl) rfl #[.slice A0 l0.length c0] rfl (by (try simp only [List.map_toArray, List.map_cons, List.map_nil]); first | done | rfl | (simp only [List.length_drop, List.length_take]; rfl) | (simp only [*]; rfl) | (simp [*]; done) | (simp [*]; (repeat' apply And.intro) <;> rfl)) ?_; (with_reducible refine (safeint_Sum.calls _ _ l0 t550 t551 _ ?side1 ?side2 A5.out).mono ?_); (case side1 => repeat (first | exact (Kd.C_below HR0.out HB.out) | (with_reducible refine Kd.C_alloc ?_ _) | (with_reducible refine Kd.C_drewN ?_ _) | (with_reducible refine Kd.C_drew ?_))); (case side2 => exact HC0.out); rintro e w13 ⟨rfl, hb⟩; refine ⟨_, rfl, ?_⟩; have n0_ := Aside0.mk (below_step (by repeat (first | (with_reducible first | exact HB.out | apply below_alloc | apply pw_below_drewN | apply below_drew1) | exact HB.out)) hb); clear HB; have HB := n0_; clear n0_; (try clear hb); (try clear hb2); (try clear hk); (try clear hi)) | ((with_reducible refine gate_callee (f := 34) rfl ?_); refine goesL_ (some 22) rfl rfl Try.func34 (by kernel_rfl) rfl #[.slice A0 l0.length c0] rfl (by (try simp only [List.map_toArray, List.map_cons, List.map_nil]); first | done | rfl | (simp only [List.length_drop, List.length_take]; rfl) | (simp only [*]; rfl) | (simp [*]; done) | (simp [*]; (repeat' apply And.intro) <;> rfl)) ?_; (with_reducible refine (compassref01_Sum.calls k _ _ l0 t552 t553 _ ?side1 ?side2 A6.out).mono ?_); (case side1 => repeat (first | exact (Kd.C_below HR0.out HB.out) | (with_reducible refine Kd.C_alloc ?_ _) | (with_reducible refine Kd.C_drewN ?_ _) | (with_reducible refine Kd.C_drew ?_))); (case side2 => exact HC0.out); rintro e w14 ⟨rfl, hb⟩; refine ⟨_, rfl, ?_⟩; have n0_ := Aside0.mk (below_step (by repeat (first | (with_reducible first | exact HB.out | apply below_alloc | apply pw_below_drewN | apply below_drew1) | exact HB.out)) hb); clear HB; have HB := n0_; clear n0_; (try clear hb); (try clear hb2); (try clear hk); (try clear hi)) | ((with_reducible refine gate_callee (f := 35) rfl ?_); refine goesL_ (some 28) rfl rfl Try.func35 (by kernel_rfl) rfl #[.slice A0 l0.length c0, .int .i64 a1] rfl (by (try simp only [List.map_toArray, List.map_cons, List.map_nil]); first | done | rfl | (simp only [List.length_drop, List.length_take]; rfl) | (simp only [*]; rfl) | (simp [*]; done) | (simp [*]; (repeat' apply And.intro) <;> rfl)) ?_; (with_reducible refine (safeint_Poly.calls _ _ l0 a1 t554 t555 _ ?side1 ?side2 A7.out).mono ?_); (case side1 => repeat (first | exact (Kd.C_below HR0.out HB.out) | (with_reducible refine Kd.C_alloc ?_ _) | (with_reducible refine Kd.C_drewN ?_ _) | (with_reducible refine Kd.C_drew ?_))); (case side2 => exact HC0.out); rintro e w15 ⟨rfl, hb⟩; refine ⟨_, rfl, ?_⟩; have n0_ := Aside0.mk (below_step (by repeat (first | (with_reducible first | exact HB.out | apply below_alloc | apply pw_below_drewN | apply below_drew1) | exact HB.out)) hb); clear HB; have HB := n0_; clear n0_; (try clear hb); (try clear hb2); (try clear hk); (try clear hi)) | ((with_reducible refine gate_callee (f := 36) rfl ?_); refine goesL_ (some 34) rfl rfl Try.func36 (by kernel_rfl) rfl #[.slice A0 l0.length c0, .int .i64 a1] rfl (by (try simp only [List.map_toArray, List.map_cons, List.map_nil]); first | done | rfl | (simp only [List.length_drop, List.length_take]; rfl) | (simp only [*]; rfl) | (simp [*]; done) | (simp [*]; (repeat' apply And.intro) <;> rfl)) ?_; (with_reducible refine (compassref01_Poly.calls k _ _ l0 a1 t556 t557 _ ?side1 ?side2 A8.out).mono ?_); (case side1 => repeat (first | exact (Kd.C_below HR0.out HB.out) | (with_reducible refine Kd.C_alloc ?_ _) | (with_reducible refine Kd.C_drewN ?_ _) | (with_reducible refine Kd.C_drew ?_))); (case side2 => exact HC0.out); rintro e w16 ⟨rfl, hb⟩; refine ⟨_, rfl, ?_⟩; have n0_ := Aside0.mk (below_step (by repeat (first | (with_reducible first | exact HB.out | apply below_alloc | apply pw_below_drewN | apply below_drew1) | exact HB.out)) hb); clear HB; have HB := n0_; clear n0_; (try clear hb); (try clear hb2); (try clear hk); (try clear hi)))
          go_ret
          exact ⟨by first | rfl | (simp [errW_none, errW_some] <;> rfl) | (simp [*, errW_none, errW_some] <;> rfl), by repeat (first | (with_reducible first | exact HB.out | apply below_alloc | apply pw_below_drewN | apply below_drew1) | exact HB.out)⟩
        · rw [if_neg c11] at H
          have c11b0 : (t554 == t556) = false := beq_eq_false_iff_ne.mpr c11
          have c11b1 : (t554 != t556) = true := bne_iff_ne.mpr c11
          exact absurd ((Option.some.inj H).trans HR_.out) (by decide)
      · rw [if_neg c10] at H
        have c10b0 : (t551 == t553) = false := beq_eq_false_iff_ne.mpr c10
        have c10b1 : (t551 != t553) = true := bne_iff_ne.mpr c10
        exact absurd ((Option.some.inj H).trans HR_.out) (by decide)
    · rw [if_neg c9] at H
      have c9b0 : (t550 == t552) = false := beq_eq_false_iff_ne.mpr c9
      have c9b1 : (t550 != t552) = true := bne_iff_ne.mpr c9
      exact absurd ((Option.some.inj H).trans HR_.out) (by decide)
  · replace c4 := Bool.eq_false_iff.mpr c4
    subst c4
    have H1 : (some false) = some r := by rw [if_neg (show ¬ (false = true) by decide)] at H; exact H
    clear H
    have H := H1
    clear H1
    exact absurd ((Option.some.inj H).trans HR_.out) (by decide)

/-- THE ONE PURE STATEMENT of compasslaw01_SafeSums: yours. -/
def compasslaw01_SafeSums.Pure : Prop := ∀ (l0 : List Int) (a1 : Int), l0.length ≤ maxLen → l0.length * 8 ≤ 140737488351232 → (∀ x ∈ l0, (Lit.int .i64 x).wf = true) → (Lit.int .i64 a1).wf = true → ∃ k, compasslaw01_SafeSums.f k l0 a1 = some true
theorem compasslaw01_SafeSums.walk (P : compasslaw01_SafeSums.Pure) (a0 : Option Addr) (len0 cap0 : Nat) (z0 : List Int) (a1 : Int) (w : World) (w0 : (a0 = none ∧ len0 = 0 ∧ cap0 = 0 ∧ z0 = []) ∨ ∃ x, a0 = some x ∧ len0 ≤ cap0 ∧ cap0 ≤ maxLen ∧ z0.length = cap0 ∧ (∀ i, i < z0.length → w.cell? (x.add i) = some (.int .i64 (z0.getD i 0))) ∧ ∀ n ∈ z0, (Lit.int .i64 n).wf = true) (y0 : len0 * 8 ≤ 140737488351232) (w1 : (Lit.int .i64 a1).wf = true) :
    Calls Try.prog 9 #[.slice a0 len0 cap0, .int .i64 a1] w fun e w' => e = .returned (.bool true) ∧ Below w.heap.size w w' := by
  obtain ⟨l0, rfl, hr0, hm0, hw0, hc0⟩ := ReadsInt.ofRowC w0
  obtain ⟨k, h⟩ := P l0 a1 hm0 y0 hw0 w1
  refine (compasslaw01_SafeSums.calls k _ _ l0 a1 true w (Kd.C_of_reads (d := (0 : Int)) (h1 := fun _ => rfl) hr0) hc0 rfl h).mono ?_
  rintro e w' ⟨rfl, hd⟩
  exact ⟨rfl, hd⟩

end Go.Proofs.Ytofcjoccnbegdaa.Q
