-- PRINTED by print.py (a twelfth state) out of the translation. Not trusted: Lean checks it.
import Derived.Test.YtofcjoccnbegdaaQ0
import Derived.Test.YtofcjoccnbegdaaQ7
import Derived.Test.YtofcjoccnbegdaaQ8
import Derived.Test.YtofcjoccnbegdaaQ9
import Derived.Test.YtofcjoccnbegdaaQ14
import Derived.Test.YtofcjoccnbegdaaQ16
import Derived.Test.YtofcjoccnbegdaaQ17
import Derived.Test.YtofcjoccnbegdaaQ20
namespace Go.Proofs.Ytofcjoccnbegdaa.Q
open Go.RowKit Go.Proofs.YtofcjoccnbegdaaW.PrintWords Go.Proofs.YtofcjoccnbegdaaW.PrintLast Go.Proofs.YtofcjoccnbegdaaW.PrintMore
attribute [local go_sem] max2_int min2_int max_two min_two max_three min_three max_four min_four   -- for this text's walks alone
set_option linter.unusedVariables false
set_option linter.unusedSimpArgs false

/-! ### compasslaw01_SafeAdds: function 8 -/
def compasslaw01_SafeAdds.f (k : Nat) (a0 : Int) (a1 : Int) : Option (Bool) := (compasslaw01_awake.f).bind fun t469 => (if t469 = true then ((compassref01_Of.f k a0).bind fun bt470 => ((compassref01_Of.f k a1).bind fun bt474 => ((safeint_Add.f a0 a1).bind fun bt480 => ((compassref01_Plus.f k bt470.1 bt470.2 bt474.1 bt474.2).bind fun bt482 => ((compassref01_Narrow.f k bt482.1 bt482.2).bind fun bt486 => ((safeint_Sub.f a0 a1).bind fun bt488 => ((compassref01_Less.f bt474.1 bt474.2).bind fun bt490 => ((compassref01_Plus.f k bt470.1 bt470.2 bt490.1 bt490.2).bind fun bt494 => ((compassref01_Narrow.f k bt494.1 bt494.2).bind fun bt498 => ((safeint_Mul.f a0 a1).bind fun bt500 => ((compassref01_Times.f k bt470.1 bt470.2 bt474.1 bt474.2).bind fun bt502 => ((compassref01_Narrow.f k bt502.1 bt502.2).bind fun bt506 => (if bt480.1 = bt486.1 then (if bt480.2 = bt486.2 then (if bt488.1 = bt498.1 then (if bt488.2 = bt498.2 then (if bt500.1 = bt506.1 then (some (bt500.2 == bt506.2)) else (some false)) else (some false)) else (some false)) else (some false)) else (some false)))))))))))))) else (some false))
theorem compasslaw01_SafeAdds.mono : ∀ a0 a1 k, LeO (compasslaw01_SafeAdds.f k a0 a1) (compasslaw01_SafeAdds.f (k + 1) a0 a1) := by
  intro a0 a1 k
  unfold compasslaw01_SafeAdds.f
  repeat' first
      | (with_reducible exact compassref01_Narrow.mono _ _ _)
      | (with_reducible exact compassref01_Of.mono _ _)
      | (with_reducible exact compassref01_Plus.mono _ _ _ _ _)
      | (with_reducible exact compassref01_Times.mono _ _ _ _ _)
      | (with_reducible exact LeO.refl _)
      | (with_reducible exact LeO.none _)
      | (with_reducible refine LeO.ite ?_ ?_)
      | (with_reducible refine LeO.bind ?_ (fun _ => ?_))
      | exact compassref01_Narrow.mono _ _ _
      | exact compassref01_Of.mono _ _
      | exact compassref01_Plus.mono _ _ _ _ _
      | exact compassref01_Times.mono _ _ _ _ _
      | exact LeO.none _
      | refine LeO.ite ?_ ?_
      | refine LeO.bind ?_ (fun _ => ?_)
def compasslaw01_SafeAdds.T7 : Bool × List (List Nat × List Nat) := (true, [([], []), ([], []), ([1], [1]), ([0, 2, 2], [0, 2]), ([3, 3], [3]), ([4], [4]), ([5], [5]), ([5], [5]), ([6, 4, 0, 1, 2, 3, 4, 5, 6], [6]), ([7, 8, 0, 1, 2, 3, 4, 5, 6, 7, 8], [7])])
def compasslaw01_SafeAdds.B7 : List Nat := [0, 0, 2, 7, 15, 31, 63, 63, 127, 511]
theorem compasslaw01_SafeAdds.tab7 : rtab .any (opsOf Try.f8 7) = compasslaw01_SafeAdds.T7 := by kernel_rfl
theorem compasslaw01_SafeAdds.bits7 : waitsOk compasslaw01_SafeAdds.T7.2 compasslaw01_SafeAdds.B7 = true := by kernel_rfl
set_option maxHeartbeats 8000000 in
set_option maxRecDepth 100000 in
theorem compasslaw01_SafeAdds.calls (k : Nat) (a0 : Int) (a1 : Int) (r : Bool) (w : World) (hr_ : r = true) (h : compasslaw01_SafeAdds.f k a0 a1 = some r) :
    Calls Try.prog 8 #[.int .i64 a0, .int .i64 a1] w fun e w' => e = .returned (.bool r) ∧ Below w.heap.size w w' := by
  have hu31 := Try.underlying31
  have HB := Aside0.mk (Below.refl w.heap.size w)
  have HR_ := Aside0.mk hr_
  clear hr_
  have H : ((compasslaw01_awake.f).bind fun t469 => (if t469 = true then ((compassref01_Of.f k a0).bind fun bt470 => ((compassref01_Of.f k a1).bind fun bt474 => ((safeint_Add.f a0 a1).bind fun bt480 => ((compassref01_Plus.f k bt470.1 bt470.2 bt474.1 bt474.2).bind fun bt482 => ((compassref01_Narrow.f k bt482.1 bt482.2).bind fun bt486 => ((safeint_Sub.f a0 a1).bind fun bt488 => ((compassref01_Less.f bt474.1 bt474.2).bind fun bt490 => ((compassref01_Plus.f k bt470.1 bt470.2 bt490.1 bt490.2).bind fun bt494 => ((compassref01_Narrow.f k bt494.1 bt494.2).bind fun bt498 => ((safeint_Mul.f a0 a1).bind fun bt500 => ((compassref01_Times.f k bt470.1 bt470.2 bt474.1 bt474.2).bind fun bt502 => ((compassref01_Narrow.f k bt502.1 bt502.2).bind fun bt506 => (if bt480.1 = bt486.1 then (if bt480.2 = bt486.2 then (if bt488.1 = bt498.1 then (if bt488.2 = bt498.2 then (if bt500.1 = bt506.1 then (some (bt500.2 == bt506.2)) else (some false)) else (some false)) else (some false)) else (some false)) else (some false)))))))))))))) else (some false))) = some r := h
  clear h
  replace H := Option.bind_eq_some_iff.mp H
  obtain ⟨t469, A30, H⟩ := H
  replace H : (if t469 = true then ((compassref01_Of.f k a0).bind fun bt470 => ((compassref01_Of.f k a1).bind fun bt474 => ((safeint_Add.f a0 a1).bind fun bt480 => ((compassref01_Plus.f k bt470.1 bt470.2 bt474.1 bt474.2).bind fun bt482 => ((compassref01_Narrow.f k bt482.1 bt482.2).bind fun bt486 => ((safeint_Sub.f a0 a1).bind fun bt488 => ((compassref01_Less.f bt474.1 bt474.2).bind fun bt490 => ((compassref01_Plus.f k bt470.1 bt470.2 bt490.1 bt490.2).bind fun bt494 => ((compassref01_Narrow.f k bt494.1 bt494.2).bind fun bt498 => ((safeint_Mul.f a0 a1).bind fun bt500 => ((compassref01_Times.f k bt470.1 bt470.2 bt474.1 bt474.2).bind fun bt502 => ((compassref01_Narrow.f k bt502.1 bt502.2).bind fun bt506 => (if bt480.1 = bt486.1 then (if bt480.2 = bt486.2 then (if bt488.1 = bt498.1 then (if bt488.2 = bt498.2 then (if bt500.1 = bt506.1 then (some (bt500.2 == bt506.2)) else (some false)) else (some false)) else (some false)) else (some false)) else (some false)))))))))))))) else (some false)) = some r := H
  have A3 := Aside0.mk A30
  clear A30
  by_cases c4 : t469 = true
  · subst c4
    have H1 : ((compassref01_Of.f k a0).bind fun bt470 => ((compassref01_Of.f k a1).bind fun bt474 => ((safeint_Add.f a0 a1).bind fun bt480 => ((compassref01_Plus.f k bt470.1 bt470.2 bt474.1 bt474.2).bind fun bt482 => ((compassref01_Narrow.f k bt482.1 bt482.2).bind fun bt486 => ((safeint_Sub.f a0 a1).bind fun bt488 => ((compassref01_Less.f bt474.1 bt474.2).bind fun bt490 => ((compassref01_Plus.f k bt470.1 bt470.2 bt490.1 bt490.2).bind fun bt494 => ((compassref01_Narrow.f k bt494.1 bt494.2).bind fun bt498 => ((safeint_Mul.f a0 a1).bind fun bt500 => ((compassref01_Times.f k bt470.1 bt470.2 bt474.1 bt474.2).bind fun bt502 => ((compassref01_Narrow.f k bt502.1 bt502.2).bind fun bt506 => (if bt480.1 = bt486.1 then (if bt480.2 = bt486.2 then (if bt488.1 = bt498.1 then (if bt488.2 = bt498.2 then (if bt500.1 = bt506.1 then (some (bt500.2 == bt506.2)) else (some false)) else (some false)) else (some false)) else (some false)) else (some false)))))))))))))) = some r := by rw [if_pos rfl] at H; exact H
    clear H
    have H := H1
    clear H1
    replace H := Option.bind_eq_some_iff.mp H
    obtain ⟨⟨t470, t471⟩, A50, H⟩ := H
    replace H : ((compassref01_Of.f k a1).bind fun bt474 => ((safeint_Add.f a0 a1).bind fun bt480 => ((compassref01_Plus.f k t470 t471 bt474.1 bt474.2).bind fun bt482 => ((compassref01_Narrow.f k bt482.1 bt482.2).bind fun bt486 => ((safeint_Sub.f a0 a1).bind fun bt488 => ((compassref01_Less.f bt474.1 bt474.2).bind fun bt490 => ((compassref01_Plus.f k t470 t471 bt490.1 bt490.2).bind fun bt494 => ((compassref01_Narrow.f k bt494.1 bt494.2).bind fun bt498 => ((safeint_Mul.f a0 a1).bind fun bt500 => ((compassref01_Times.f k t470 t471 bt474.1 bt474.2).bind fun bt502 => ((compassref01_Narrow.f k bt502.1 bt502.2).bind fun bt506 => (if bt480.1 = bt486.1 then (if bt480.2 = bt486.2 then (if bt488.1 = bt498.1 then (if bt488.2 = bt498.2 then (if bt500.1 = bt506.1 then (some (bt500.2 == bt506.2)) else (some false)) else (some false)) else (some false)) else (some false)) else (some false))))))))))))) = some r := H
    have A5 := Aside0.mk A50
    clear A50
    replace H := Option.bind_eq_some_iff.mp H
    obtain ⟨⟨t474, t475⟩, A60, H⟩ := H
    replace H : ((safeint_Add.f a0 a1).bind fun bt480 => ((compassref01_Plus.f k t470 t471 t474 t475).bind fun bt482 => ((compassref01_Narrow.f k bt482.1 bt482.2).bind fun bt486 => ((safeint_Sub.f a0 a1).bind fun bt488 => ((compassref01_Less.f t474 t475).bind fun bt490 => ((compassref01_Plus.f k t470 t471 bt490.1 bt490.2).bind fun bt494 => ((compassref01_Narrow.f k bt494.1 bt494.2).bind fun bt498 => ((safeint_Mul.f a0 a1).bind fun bt500 => ((compassref01_Times.f k t470 t471 t474 t475).bind fun bt502 => ((compassref01_Narrow.f k bt502.1 bt502.2).bind fun bt506 => (if bt480.1 = bt486.1 then (if bt480.2 = bt486.2 then (if bt488.1 = bt498.1 then (if bt488.2 = bt498.2 then (if bt500.1 = bt506.1 then (some (bt500.2 == bt506.2)) else (some false)) else (some false)) else (some false)) else (some false)) else (some false)))))))))))) = some r := H
    have A6 := Aside0.mk A60
    clear A60
    replace H := Option.bind_eq_some_iff.mp H
    obtain ⟨⟨t480, t481⟩, A70, H⟩ := H
    replace H : ((compassref01_Plus.f k t470 t471 t474 t475).bind fun bt482 => ((compassref01_Narrow.f k bt482.1 bt482.2).bind fun bt486 => ((safeint_Sub.f a0 a1).bind fun bt488 => ((compassref01_Less.f t474 t475).bind fun bt490 => ((compassref01_Plus.f k t470 t471 bt490.1 bt490.2).bind fun bt494 => ((compassref01_Narrow.f k bt494.1 bt494.2).bind fun bt498 => ((safeint_Mul.f a0 a1).bind fun bt500 => ((compassref01_Times.f k t470 t471 t474 t475).bind fun bt502 => ((compassref01_Narrow.f k bt502.1 bt502.2).bind fun bt506 => (if t480 = bt486.1 then (if t481 = bt486.2 then (if bt488.1 = bt498.1 then (if bt488.2 = bt498.2 then (if bt500.1 = bt506.1 then (some (bt500.2 == bt506.2)) else (some false)) else (some false)) else (some false)) else (some false)) else (some false))))))))))) = some r := H
    have A7 := Aside0.mk A70
    clear A70
    replace H := Option.bind_eq_some_iff.mp H
    obtain ⟨⟨t482, t483⟩, A80, H⟩ := H
    replace H : ((compassref01_Narrow.f k t482 t483).bind fun bt486 => ((safeint_Sub.f a0 a1).bind fun bt488 => ((compassref01_Less.f t474 t475).bind fun bt490 => ((compassref01_Plus.f k t470 t471 bt490.1 bt490.2).bind fun bt494 => ((compassref01_Narrow.f k bt494.1 bt494.2).bind fun bt498 => ((safeint_Mul.f a0 a1).bind fun bt500 => ((compassref01_Times.f k t470 t471 t474 t475).bind fun bt502 => ((compassref01_Narrow.f k bt502.1 bt502.2).bind fun bt506 => (if t480 = bt486.1 then (if t481 = bt486.2 then (if bt488.1 = bt498.1 then (if bt488.2 = bt498.2 then (if bt500.1 = bt506.1 then (some (bt500.2 == bt506.2)) else (some false)) else (some false)) else (some false)) else (some false)) else (some false)))))))))) = some r := H
    have A8 := Aside0.mk A80
    clear A80
    replace H := Option.bind_eq_some_iff.mp H
    obtain ⟨⟨t486, t487⟩, A90, H⟩ := H
    replace H : ((safeint_Sub.f a0 a1).bind fun bt488 => ((compassref01_Less.f t474 t475).bind fun bt490 => ((compassref01_Plus.f k t470 t471 bt490.1 bt490.2).bind fun bt494 => ((compassref01_Narrow.f k bt494.1 bt494.2).bind fun bt498 => ((safeint_Mul.f a0 a1).bind fun bt500 => ((compassref01_Times.f k t470 t471 t474 t475).bind fun bt502 => ((compassref01_Narrow.f k bt502.1 bt502.2).bind fun bt506 => (if t480 = t486 then (if t481 = t487 then (if bt488.1 = bt498.1 then (if bt488.2 = bt498.2 then (if bt500.1 = bt506.1 then (some (bt500.2 == bt506.2)) else (some false)) else (some false)) else (some false)) else (some false)) else (some false))))))))) = some r := H
    have A9 := Aside0.mk A90
    clear A90
    replace H := Option.bind_eq_some_iff.mp H
    obtain ⟨⟨t488, t489⟩, A100, H⟩ := H
    replace H : ((compassref01_Less.f t474 t475).bind fun bt490 => ((compassref01_Plus.f k t470 t471 bt490.1 bt490.2).bind fun bt494 => ((compassref01_Narrow.f k bt494.1 bt494.2).bind fun bt498 => ((safeint_Mul.f a0 a1).bind fun bt500 => ((compassref01_Times.f k t470 t471 t474 t475).bind fun bt502 => ((compassref01_Narrow.f k bt502.1 bt502.2).bind fun bt506 => (if t480 = t486 then (if t481 = t487 then (if t488 = bt498.1 then (if t489 = bt498.2 then (if bt500.1 = bt506.1 then (some (bt500.2 == bt506.2)) else (some false)) else (some false)) else (some false)) else (some false)) else (some false)))))))) = some r := H
    have A10 := Aside0.mk A100
    clear A100
    replace H := Option.bind_eq_some_iff.mp H
    obtain ⟨⟨t490, t491⟩, A110, H⟩ := H
    replace H : ((compassref01_Plus.f k t470 t471 t490 t491).bind fun bt494 => ((compassref01_Narrow.f k bt494.1 bt494.2).bind fun bt498 => ((safeint_Mul.f a0 a1).bind fun bt500 => ((compassref01_Times.f k t470 t471 t474 t475).bind fun bt502 => ((compassref01_Narrow.f k bt502.1 bt502.2).bind fun bt506 => (if t480 = t486 then (if t481 = t487 then (if t488 = bt498.1 then (if t489 = bt498.2 then (if bt500.1 = bt506.1 then (some (bt500.2 == bt506.2)) else (some false)) else (some false)) else (some false)) else (some false)) else (some false))))))) = some r := H
    have A11 := Aside0.mk A110
    clear A110
    replace H := Option.bind_eq_some_iff.mp H
    obtain ⟨⟨t494, t495⟩, A120, H⟩ := H
    replace H : ((compassref01_Narrow.f k t494 t495).bind fun bt498 => ((safeint_Mul.f a0 a1).bind fun bt500 => ((compassref01_Times.f k t470 t471 t474 t475).bind fun bt502 => ((compassref01_Narrow.f k bt502.1 bt502.2).bind fun bt506 => (if t480 = t486 then (if t481 = t487 then (if t488 = bt498.1 then (if t489 = bt498.2 then (if bt500.1 = bt506.1 then (some (bt500.2 == bt506.2)) else (some false)) else (some false)) else (some false)) else (some false)) else (some false)))))) = some r := H
    have A12 := Aside0.mk A120
    clear A120
    replace H := Option.bind_eq_some_iff.mp H
    obtain ⟨⟨t498, t499⟩, A130, H⟩ := H
    replace H : ((safeint_Mul.f a0 a1).bind fun bt500 => ((compassref01_Times.f k t470 t471 t474 t475).bind fun bt502 => ((compassref01_Narrow.f k bt502.1 bt502.2).bind fun bt506 => (if t480 = t486 then (if t481 = t487 then (if t488 = t498 then (if t489 = t499 then (if bt500.1 = bt506.1 then (some (bt500.2 == bt506.2)) else (some false)) else (some false)) else (some false)) else (some false)) else (some false))))) = some r := H
    have A13 := Aside0.mk A130
    clear A130
    replace H := Option.bind_eq_some_iff.mp H
    obtain ⟨⟨t500, t501⟩, A140, H⟩ := H
    replace H : ((compassref01_Times.f k t470 t471 t474 t475).bind fun bt502 => ((compassref01_Narrow.f k bt502.1 bt502.2).bind fun bt506 => (if t480 = t486 then (if t481 = t487 then (if t488 = t498 then (if t489 = t499 then (if t500 = bt506.1 then (some (t501 == bt506.2)) else (some false)) else (some false)) else (some false)) else (some false)) else (some false)))) = some r := H
    have A14 := Aside0.mk A140
    clear A140
    replace H := Option.bind_eq_some_iff.mp H
    obtain ⟨⟨t502, t503⟩, A150, H⟩ := H
    replace H : ((compassref01_Narrow.f k t502 t503).bind fun bt506 => (if t480 = t486 then (if t481 = t487 then (if t488 = t498 then (if t489 = t499 then (if t500 = bt506.1 then (some (t501 == bt506.2)) else (some false)) else (some false)) else (some false)) else (some false)) else (some false))) = some r := H
    have A15 := Aside0.mk A150
    clear A150
    replace H := Option.bind_eq_some_iff.mp H
    obtain ⟨⟨t506, t507⟩, A160, H⟩ := H
    replace H : (if t480 = t486 then (if t481 = t487 then (if t488 = t498 then (if t489 = t499 then (if t500 = t506 then (some (t501 == t507)) else (some false)) else (some false)) else (some false)) else (some false)) else (some false)) = some r := H
    have A16 := Aside0.mk A160
    clear A160
    by_cases c17 : t480 = t486
    · rw [if_pos c17] at H
      have c17b0 : (t480 == t486) = true := beq_iff_eq.mpr c17
      have c17b1 : (t480 != t486) = false := bne_eq_false_iff_eq.mpr c17
      clear c17
      by_cases c18 : t481 = t487
      · rw [if_pos c18] at H
        have c18b0 : (t481 == t487) = true := beq_iff_eq.mpr c18
        have c18b1 : (t481 != t487) = false := bne_eq_false_iff_eq.mpr c18
        clear c18
        by_cases c19 : t488 = t498
        · rw [if_pos c19] at H
          have c19b0 : (t488 == t498) = true := beq_iff_eq.mpr c19
          have c19b1 : (t488 != t498) = false := bne_eq_false_iff_eq.mpr c19
          clear c19
          by_cases c20 : t489 = t499
          · rw [if_pos c20] at H
            have c20b0 : (t489 == t499) = true := beq_iff_eq.mpr c20
            have c20b1 : (t489 != t499) = false := bne_eq_false_iff_eq.mpr c20
            clear c20
            by_cases c21 : t500 = t506
            · rw [if_pos c21] at H
              have c21b0 : (t500 == t506) = true := beq_iff_eq.mpr c21
              have c21b1 : (t500 != t506) = false := bne_eq_false_iff_eq.mpr c21
              clear c21
              obtain rfl := Option.some.inj H
              go_enter Try.func8, Try.ntmps8
              try go_wp2_with (first | ((with_reducible refine gate_callee (f := 21) rfl ?_); refine goesL_ (some 19) rfl rfl Try.func21 (by kernel_rfl) rfl #[] rfl (by (try simp only [List.map_toArray, List.map_cons, List.map_nil]); first | done | rfl | (simp only [List.length_drop, List.length_take]; rfl) | (simp only [*]; rfl) | (simp [*]; done) | (simp [*]; (repeat' apply And.intro) <;> rfl)) ?_; (with_reducible refine (compasslaw01_awake.calls  true _ A3.out).mono ?_); rintro e w22 ⟨rfl, hb⟩; refine ⟨_, rfl, ?_⟩; have n0_ := Aside0.mk (below_step (by repeat (first | (with_reducible first | exact HB.out | apply below_alloc | apply pw_below_drewN | apply below_drew1) | exact HB.out)) hb); clear HB; have HB := n0_; clear n0_; (try clear hb); (try clear hb2); (try clear hk); (try clear hi)) | ((with_reducible refine gate_callee (f := 15) rfl ?_); refine goesL_ (some 22) rfl rfl Try.func15 (by kernel_rfl) rfl #[.int .i64 a0] rfl (by (try simp only [List.map_toArray, List.map_cons, List.map_nil]); first | done | rfl | (simp only [List.length_drop, List.length_take]; rfl) | (simp only [*]; rfl) | (simp [*]; done) | (simp [*]; (repeat' apply And.intro) <;> rfl)) ?_; (with_reducible refine (compassref01_Of.calls k a0 t470 t471 _ A5.out).mono ?_); rintro e w23 ⟨v472, rfl, ho0, hb⟩; refine ⟨_, rfl, ?_⟩; have n0_ := Aside0.mk (Kd.R_lower ho0 (below_size (by repeat (first | (with_reducible first | exact HB.out | apply below_alloc | apply pw_below_drewN | apply below_drew1) | exact HB.out)))); have n1_ := Aside0.mk (below_step (by repeat (first | (with_reducible first | exact HB.out | apply below_alloc | apply pw_below_drewN | apply below_drew1) | exact HB.out)) hb); clear HB; have HO473 := n0_; have HB := n1_; clear n0_ n1_; (try clear hb); (try clear hb2); (try clear hk); (try clear hi); (try clear ho0)) | ((with_reducible refine gate_callee (f := 15) rfl ?_); refine goesL_ (some 24) rfl rfl Try.func15 (by kernel_rfl) rfl #[.int .i64 a1] rfl (by (try simp only [List.map_toArray, List.map_cons, List.map_nil]); first | done | rfl | (simp only [List.length_drop, List.length_take]; rfl) | (simp only [*]; rfl) | (simp [*]; done) | (simp [*]; (repeat' apply And.intro) <;> rfl)) ?_; (with_reducible refine (compassref01_Of.calls k a1 t474 t475 _ A6.out).mono ?_); rintro e w24 ⟨v476, rfl, ho0, hb⟩; refine ⟨_, rfl, ?_⟩; have n0_ := Aside0.mk (Kd.R_elder' (by (with_reducible repeat (first | apply Kd.R_alloc | apply Kd.R_drewN | apply Kd.R_drew)); exact HO473.out) (Kd.R_base ho0) hb); have n1_ := Aside0.mk (Kd.R_lower (Kd.R_new' ho0 (Kd.R_lt (by (with_reducible repeat (first | apply Kd.R_alloc | apply Kd.R_drewN | apply Kd.R_drew)); exact HO473.out))) (below_size (by repeat (first | (with_reducible first | exact HB.out | apply below_alloc | apply pw_below_drewN | apply below_drew1) | exact HB.out)))); have n2_ := Aside0.mk (below_step (by repeat (first | (with_reducible first | exact HB.out | apply below_alloc | apply pw_below_drewN | apply below_drew1) | exact HB.out)) hb); clear HO473; clear HB; have HO473 := n0_; have HO477 := n1_; have HB := n2_; clear n0_ n1_ n2_; (try clear hb); (try clear hb2); (try clear hk); (try clear hi); (try clear ho0)) | ((with_reducible refine gate_dst (N := 5) rfl ?_); refine box_event ?hg (N := 5) ?hd (cs := #[.bool false, .slice none 0 0]) (t := 31) ?hr ?_; (case hd => rfl); (case hg => rfl); (case hr => first | (go_simp; done) | (go_simp; rfl)); intro gb478 hg w25 hbox hb; have n0_ := Aside0.mk (Kd.R_below (by (with_reducible repeat (first | apply Kd.R_alloc | apply Kd.R_drewN | apply Kd.R_drew)); exact HO473.out) hb); have n1_ := Aside0.mk (Kd.R_below (by (with_reducible repeat (first | apply Kd.R_alloc | apply Kd.R_drewN | apply Kd.R_drew)); exact HO477.out) hb); have n2_ := Aside0.mk (below_step (by repeat (first | (with_reducible first | exact HB.out | apply below_alloc | apply pw_below_drewN | apply below_drew1) | exact HB.out)) hb); have n3_ := Aside0.mk (hbox); have n4_ := Aside0.mk ((by rw [hg]; exact (below_size (by repeat (first | (with_reducible first | exact HB.out | apply below_alloc | apply pw_below_drewN | apply below_drew1) | exact HB.out))) : w.heap.size ≤ gb478)); have n5_ := Aside0.mk ((by rw [hg]; exact (below_size (by repeat (first | (with_reducible first | exact HB.out | apply below_alloc | apply pw_below_drewN | apply below_drew1) | exact HB.out))) : w.heap.size ≤ gb478)); clear HO473; clear HO477; clear HB; have HO473 := n0_; have HO477 := n1_; have HB := n2_; have BK478 := n3_; have GW478 := n4_; have GE478 := n5_; clear n0_ n1_ n2_ n3_ n4_ n5_; clear hb hbox hg) | ((with_reducible refine gate_dst (N := 6) rfl ?_); refine box_event ?hg (N := 6) ?hd (cs := #[.bool false, .slice none 0 0]) (t := 31) ?hr ?_; (case hd => rfl); (case hg => rfl); (case hr => first | (go_simp; done) | (go_simp; rfl)); intro gb479 hg w26 hbox hb; have n0_ := Aside0.mk (Kd.R_below (by (with_reducible repeat (first | apply Kd.R_alloc | apply Kd.R_drewN | apply Kd.R_drew)); exact HO473.out) hb); have n1_ := Aside0.mk (Kd.R_below (by (with_reducible repeat (first | apply Kd.R_alloc | apply Kd.R_drewN | apply Kd.R_drew)); exact HO477.out) hb); have n2_ := Aside0.mk (blk_below (g := gb478) (o := .cells #[.bool false, .slice none 0 0] 31 (0, 0)) (by (with_reducible repeat (first | refine blk_drewN ?_ _ | refine blk_drew ?_ | refine blk_alloc ?_ _)); exact BK478.out) hb); have n3_ := Aside0.mk (below_step (by repeat (first | (with_reducible first | exact HB.out | apply below_alloc | apply pw_below_drewN | apply below_drew1 | refine below_set ?_ GE478.out) | exact HB.out)) hb); have n4_ := Aside0.mk (hbox); have n5_ := Aside0.mk ((by rw [hg]; exact (below_size (by repeat (first | (with_reducible first | exact HB.out | apply below_alloc | apply pw_below_drewN | apply below_drew1 | refine below_set ?_ GE478.out) | exact HB.out))) : w.heap.size ≤ gb479)); have n6_ := Aside0.mk ((by rw [hg]; exact (below_size (by repeat (first | (with_reducible first | exact HB.out | apply below_alloc | apply pw_below_drewN | apply below_drew1 | refine below_set ?_ GE478.out) | exact HB.out))) : w.heap.size ≤ gb479)); have n7_ := Aside0.mk ((by rw [hg]; exact Nat.ne_of_lt (blk_lt (g := gb478) (o := .cells #[.bool false, .slice none 0 0] 31 (0, 0)) (by (with_reducible repeat (first | refine blk_drewN ?_ _ | refine blk_drew ?_ | refine blk_alloc ?_ _)); exact BK478.out)) : gb478 ≠ gb479)); have n8_ := Aside0.mk ((by rw [hg]; exact Nat.ne_of_gt (blk_lt (g := gb478) (o := .cells #[.bool false, .slice none 0 0] 31 (0, 0)) (by (with_reducible repeat (first | refine blk_drewN ?_ _ | refine blk_drew ?_ | refine blk_alloc ?_ _)); exact BK478.out)) : gb479 ≠ gb478)); clear HO473; clear HO477; clear BK478; clear HB; have HO473 := n0_; have HO477 := n1_; have BK478 := n2_; have HB := n3_; have BK479 := n4_; have GW479 := n5_; have GE479 := n6_; have NB478_479 := n7_; have NB479_478 := n8_; clear n0_ n1_ n2_ n3_ n4_ n5_ n6_ n7_ n8_; clear hb hbox hg; have hnb27 := NB478_479.out; have hnc27 := NB479_478.out; have hcz28_0 : w26.cell? ⟨gb478, 0, none⟩ = some (.bool false) := (blk_cell BK478.out 0).trans rfl; have hcz28_1 : w26.cell? ⟨gb478, 1, none⟩ = some (.slice none 0 0) := (blk_cell BK478.out 1).trans rfl; have hfz28_0 := blk_frozen BK478.out 0; have hfz28_1 := blk_frozen BK478.out 1; obtain ⟨Ao29, co29, eo29⟩ := Kd.R_slice HO473.out; subst eo29; have hcz30_0 : w26.cell? ⟨gb479, 0, none⟩ = some (.bool false) := (blk_cell BK479.out 0).trans rfl; have hcz30_1 : w26.cell? ⟨gb479, 1, none⟩ = some (.slice none 0 0) := (blk_cell BK479.out 1).trans rfl; have hfz30_0 := blk_frozen BK479.out 0; have hfz30_1 := blk_frozen BK479.out 1; obtain ⟨Ao31, co31, eo31⟩ := Kd.R_slice HO477.out; subst eo31) | ((with_reducible refine gate_callee (f := 30) rfl ?_); refine goesL_ (some 28) rfl rfl Try.func30 (by kernel_rfl) rfl #[.int .i64 a0, .int .i64 a1] rfl (by (try simp only [List.map_toArray, List.map_cons, List.map_nil]); first | done | rfl | (simp only [List.length_drop, List.length_take]; rfl) | (simp only [*]; rfl) | (simp [*]; done) | (simp [*]; (repeat' apply And.intro) <;> rfl)) ?_; (with_reducible refine (safeint_Add.calls a0 a1 t480 t481 _ A7.out).mono ?_); rintro e w' ⟨rfl, ⟨nd, rfl⟩⟩; refine ⟨_, rfl, ?_⟩) | ((with_reducible refine gate_callee (f := 13) rfl ?_); refine goesL_ (some 34) rfl rfl Try.func13 (by kernel_rfl) rfl #[.agg #[.bool t470, .slice Ao29 t471.length co29], .agg #[.bool t474, .slice Ao31 t475.length co31]] rfl (by (try simp only [List.map_toArray, List.map_cons, List.map_nil]); first | done | rfl | (simp only [List.length_drop, List.length_take]; rfl) | (simp only [*]; rfl) | (simp [*]; done) | (simp [*]; (repeat' apply And.intro) <;> rfl)) ?_; (with_reducible refine (compassref01_Plus.calls k t470 _ _ t471 t474 _ _ t475 t482 t483 _ ?side1 ?side2 ?side3 ?side4 A8.out).mono ?_); (case side1 => refine (Kd.R_reads' (e := 22) (base := w.heap.size) (ok := fun k_ => (True ∧ some k_ ≠ (.slice Ao31 t475.length co31 : Value).ownBlock)) (n := t471.length) (c := co29) ?_).2.2; exact (by (with_reducible repeat (first | apply Kd.R_alloc | apply Kd.R_drewN | apply Kd.R_drew)); exact (Kd.R_mono (Kd.R_mono (Kd.R_far (p := ⟨gb479, 1, none⟩) (Kd.R_far (p := ⟨gb479, 0, none⟩) (Kd.R_far (p := ⟨gb478, 1, none⟩) (Kd.R_far (p := ⟨gb478, 0, none⟩) (Kd.R_types (Kd.R_types HO473.out BK478.out (by decide)) BK479.out (by decide)) (fun _ hk => hk.1.2) (.bool t470)) (fun _ hk => hk.1.2) (.slice Ao29 t471.length co29)) (fun _ hk => hk.2) (.bool t474)) (fun _ hk => hk.2) (.slice Ao31 t475.length co31)) (fun _ h_ => h_.1)) (fun _ h_ => h_.1)))); (case side2 => exact (Kd.R_reads' HO473.out).2.1); (case side3 => refine (Kd.R_reads' (e := 22) (base := w.heap.size) (ok := fun k_ => (True ∧ some k_ ≠ (.slice Ao29 t471.length co29 : Value).ownBlock)) (n := t475.length) (c := co31) ?_).2.2; exact (by (with_reducible repeat (first | apply Kd.R_alloc | apply Kd.R_drewN | apply Kd.R_drew)); exact (Kd.R_mono (Kd.R_mono (Kd.R_far (p := ⟨gb479, 1, none⟩) (Kd.R_far (p := ⟨gb479, 0, none⟩) (Kd.R_far (p := ⟨gb478, 1, none⟩) (Kd.R_far (p := ⟨gb478, 0, none⟩) (Kd.R_types (Kd.R_types HO477.out BK478.out (by decide)) BK479.out (by decide)) (fun _ hk => hk.1.2) (.bool t470)) (fun _ hk => hk.1.2) (.slice Ao29 t471.length co29)) (fun _ hk => hk.2) (.bool t474)) (fun _ hk => hk.2) (.slice Ao31 t475.length co31)) (fun _ h_ => h_.1)) (fun _ h_ => h_.1)))); (case side4 => exact (Kd.R_reads' HO477.out).2.1); rintro e w32 ⟨v484, rfl, ho0, hb⟩; refine ⟨_, rfl, ?_⟩; have n0_ := Aside0.mk (Kd.R_elder' (by (with_reducible repeat (first | apply Kd.R_alloc | apply Kd.R_drewN | apply Kd.R_drew)); exact (Kd.R_mono (Kd.R_mono (Kd.R_far (p := ⟨gb479, 1, none⟩) (Kd.R_far (p := ⟨gb479, 0, none⟩) (Kd.R_far (p := ⟨gb478, 1, none⟩) (Kd.R_far (p := ⟨gb478, 0, none⟩) (Kd.R_types (Kd.R_types HO473.out BK478.out (by decide)) BK479.out (by decide)) (fun _ hk => hk.1.2) (.bool t470)) (fun _ hk => hk.1.2) (.slice Ao29 t471.length co29)) (fun _ hk => hk.2) (.bool t474)) (fun _ hk => hk.2) (.slice Ao31 t475.length co31)) (fun _ h_ => h_.1)) (fun _ h_ => h_.1))) (Kd.R_base ho0) hb); have n1_ := Aside0.mk (Kd.R_elder' (by (with_reducible repeat (first | apply Kd.R_alloc | apply Kd.R_drewN | apply Kd.R_drew)); exact (Kd.R_mono (Kd.R_mono (Kd.R_far (p := ⟨gb479, 1, none⟩) (Kd.R_far (p := ⟨gb479, 0, none⟩) (Kd.R_far (p := ⟨gb478, 1, none⟩) (Kd.R_far (p := ⟨gb478, 0, none⟩) (Kd.R_types (Kd.R_types HO477.out BK478.out (by decide)) BK479.out (by decide)) (fun _ hk => hk.1.2) (.bool t470)) (fun _ hk => hk.1.2) (.slice Ao29 t471.length co29)) (fun _ hk => hk.2) (.bool t474)) (fun _ hk => hk.2) (.slice Ao31 t475.length co31)) (fun _ h_ => h_.1)) (fun _ h_ => h_.1))) (Kd.R_base ho0) hb); have n2_ := Aside0.mk (Kd.R_lower (Kd.R_new' (Kd.R_new' ho0 (Kd.R_lt (by (with_reducible repeat (first | apply Kd.R_alloc | apply Kd.R_drewN | apply Kd.R_drew)); exact (Kd.R_mono (Kd.R_mono (Kd.R_far (p := ⟨gb479, 1, none⟩) (Kd.R_far (p := ⟨gb479, 0, none⟩) (Kd.R_far (p := ⟨gb478, 1, none⟩) (Kd.R_far (p := ⟨gb478, 0, none⟩) (Kd.R_types (Kd.R_types HO473.out BK478.out (by decide)) BK479.out (by decide)) (fun _ hk => hk.1.2) (.bool t470)) (fun _ hk => hk.1.2) (.slice Ao29 t471.length co29)) (fun _ hk => hk.2) (.bool t474)) (fun _ hk => hk.2) (.slice Ao31 t475.length co31)) (fun _ h_ => h_.1)) (fun _ h_ => h_.1))))) (Kd.R_lt (by (with_reducible repeat (first | apply Kd.R_alloc | apply Kd.R_drewN | apply Kd.R_drew)); exact (Kd.R_mono (Kd.R_mono (Kd.R_far (p := ⟨gb479, 1, none⟩) (Kd.R_far (p := ⟨gb479, 0, none⟩) (Kd.R_far (p := ⟨gb478, 1, none⟩) (Kd.R_far (p := ⟨gb478, 0, none⟩) (Kd.R_types (Kd.R_types HO477.out BK478.out (by decide)) BK479.out (by decide)) (fun _ hk => hk.1.2) (.bool t470)) (fun _ hk => hk.1.2) (.slice Ao29 t471.length co29)) (fun _ hk => hk.2) (.bool t474)) (fun _ hk => hk.2) (.slice Ao31 t475.length co31)) (fun _ h_ => h_.1)) (fun _ h_ => h_.1))))) (below_size (by repeat (first | (with_reducible first | exact HB.out | apply below_alloc | apply pw_below_drewN | apply below_drew1 | refine below_set ?_ GE478.out | refine below_set ?_ GE479.out) | exact HB.out)))); have n3_ := Aside0.mk (blk_below (g := gb478) (o := .cells #[.bool t470, .slice Ao29 t471.length co29] 31 (0, 0)) (by (with_reducible repeat (first | refine blk_drewN ?_ _ | refine blk_drew ?_ | refine blk_alloc ?_ _)); refine blk_far ?_ NB478_479.out _; (with_reducible repeat (first | refine blk_drewN ?_ _ | refine blk_drew ?_ | refine blk_alloc ?_ _)); refine blk_far ?_ NB478_479.out _; (with_reducible repeat (first | refine blk_drewN ?_ _ | refine blk_drew ?_ | refine blk_alloc ?_ _)); refine blk_put (cs := #[.bool t470, .slice none 0 0]) ?_ 1 _ rfl; (with_reducible repeat (first | refine blk_drewN ?_ _ | refine blk_drew ?_ | refine blk_alloc ?_ _)); refine blk_put (cs := #[.bool false, .slice none 0 0]) ?_ 0 _ rfl; (with_reducible repeat (first | refine blk_drewN ?_ _ | refine blk_drew ?_ | refine blk_alloc ?_ _)); exact BK478.out) hb); have n4_ := Aside0.mk (blk_below (g := gb479) (o := .cells #[.bool t474, .slice Ao31 t475.length co31] 31 (0, 0)) (by (with_reducible repeat (first | refine blk_drewN ?_ _ | refine blk_drew ?_ | refine blk_alloc ?_ _)); refine blk_put (cs := #[.bool t474, .slice none 0 0]) ?_ 1 _ rfl; (with_reducible repeat (first | refine blk_drewN ?_ _ | refine blk_drew ?_ | refine blk_alloc ?_ _)); refine blk_put (cs := #[.bool false, .slice none 0 0]) ?_ 0 _ rfl; (with_reducible repeat (first | refine blk_drewN ?_ _ | refine blk_drew ?_ | refine blk_alloc ?_ _)); refine blk_far ?_ NB479_478.out _; (with_reducible repeat (first | refine blk_drewN ?_ _ | refine blk_drew ?_ | refine blk_alloc ?_ _)); refine blk_far ?_ NB479_478.out _; (with_reducible repeat (first | refine blk_drewN ?_ _ | refine blk_drew ?_ | refine blk_alloc ?_ _)); exact BK479.out) hb); have n5_ := Aside0.mk (below_step (by repeat (first | (with_reducible first | exact HB.out | apply below_alloc | apply pw_below_drewN | apply below_drew1 | refine below_set ?_ GE478.out | refine below_set ?_ GE479.out) | exact HB.out)) hb); clear HO473; clear HO477; clear BK478; clear BK479; clear HB; have HO473 := n0_; have HO477 := n1_; have HO485 := n2_; have BK478 := n3_; have BK479 := n4_; have HB := n5_; clear n0_ n1_ n2_ n3_ n4_ n5_; (try clear hb); (try clear hb2); (try clear hk); (try clear hi); (try clear ho0); obtain ⟨Ao33, co33, eo33⟩ := Kd.R_slice HO485.out; subst eo33) | ((with_reducible refine gate_callee (f := 26) rfl ?_); refine goesL_ (some 35) rfl rfl Try.func26 (by kernel_rfl) rfl #[.agg #[.bool t482, .slice Ao33 t483.length co33]] rfl (by (try simp only [List.map_toArray, List.map_cons, List.map_nil]); first | done | rfl | (simp only [List.length_drop, List.length_take]; rfl) | (simp only [*]; rfl) | (simp [*]; done) | (simp [*]; (repeat' apply And.intro) <;> rfl)) ?_; (with_reducible refine (compassref01_Narrow.calls k t482 _ _ t483 t486 t487 _ ?side1 ?side2 A9.out).mono ?_); (case side1 => repeat (first | exact (Kd.R_reads' HO485.out).2.2 | (with_reducible refine Kd.C_alloc ?_ _) | (with_reducible refine Kd.C_drewN ?_ _) | (with_reducible refine Kd.C_drew ?_))); (case side2 => exact (Kd.R_reads' HO485.out).2.1); rintro e w34 ⟨rfl, hb⟩; refine ⟨_, rfl, ?_⟩; have n0_ := Aside0.mk (Kd.R_below (by (with_reducible repeat (first | apply Kd.R_alloc | apply Kd.R_drewN | apply Kd.R_drew)); exact HO473.out) hb); have n1_ := Aside0.mk (Kd.R_below (by (with_reducible repeat (first | apply Kd.R_alloc | apply Kd.R_drewN | apply Kd.R_drew)); exact HO477.out) hb); have n2_ := Aside0.mk (Kd.R_below (by (with_reducible repeat (first | apply Kd.R_alloc | apply Kd.R_drewN | apply Kd.R_drew)); exact HO485.out) hb); have n3_ := Aside0.mk (blk_below (g := gb478) (o := .cells #[.bool t470, .slice Ao29 t471.length co29] 31 (0, 0)) (by (with_reducible repeat (first | refine blk_drewN ?_ _ | refine blk_drew ?_ | refine blk_alloc ?_ _)); exact BK478.out) hb); have n4_ := Aside0.mk (blk_below (g := gb479) (o := .cells #[.bool t474, .slice Ao31 t475.length co31] 31 (0, 0)) (by (with_reducible repeat (first | refine blk_drewN ?_ _ | refine blk_drew ?_ | refine blk_alloc ?_ _)); exact BK479.out) hb); have n5_ := Aside0.mk (below_step (by repeat (first | (with_reducible first | exact HB.out | apply below_alloc | apply pw_below_drewN | apply below_drew1 | refine below_set ?_ GE478.out | refine below_set ?_ GE479.out) | exact HB.out)) hb); clear HO473; clear HO477; clear HO485; clear BK478; clear BK479; clear HB; have HO473 := n0_; have HO477 := n1_; have HO485 := n2_; have BK478 := n3_; have BK479 := n4_; have HB := n5_; clear n0_ n1_ n2_ n3_ n4_ n5_; (try clear hb); (try clear hb2); (try clear hk); (try clear hi)) | ((with_reducible refine gate_callee (f := 31) rfl ?_); refine goesL_ (some 41) rfl rfl Try.func31 (by kernel_rfl) rfl #[.int .i64 a0, .int .i64 a1] rfl (by (try simp only [List.map_toArray, List.map_cons, List.map_nil]); first | done | rfl | (simp only [List.length_drop, List.length_take]; rfl) | (simp only [*]; rfl) | (simp [*]; done) | (simp [*]; (repeat' apply And.intro) <;> rfl)) ?_; (with_reducible refine (safeint_Sub.calls a0 a1 t488 t489 _ A10.out).mono ?_); rintro e w' ⟨rfl, ⟨nd, rfl⟩⟩; refine ⟨_, rfl, ?_⟩))
              (try (rw [drewN_self w34]; generalize hq_ : World.drewN w34 _ = w34; have n0_ : Aside0 (Kd.R (Kd.int .u64) 22 w34 w.heap.size (fun k_ => some k_ ≠ (.slice Ao31 t475.length co31 : Value).ownBlock ∧ some k_ ≠ (.slice Ao33 t483.length co33 : Value).ownBlock) (.slice Ao29 t471.length co29) t471) := ⟨by rw [← hq_]; exact (by (with_reducible repeat (first | apply Kd.R_alloc | apply Kd.R_drewN | apply Kd.R_drew)); exact Kd.R_mono HO473.out (fun _ hk => ⟨hk.1.2, hk.2⟩))⟩; have n1_ : Aside0 (Kd.R (Kd.int .u64) 22 w34 w.heap.size (fun k_ => some k_ ≠ (.slice Ao29 t471.length co29 : Value).ownBlock ∧ some k_ ≠ (.slice Ao33 t483.length co33 : Value).ownBlock) (.slice Ao31 t475.length co31) t475) := ⟨by rw [← hq_]; exact (by (with_reducible repeat (first | apply Kd.R_alloc | apply Kd.R_drewN | apply Kd.R_drew)); exact Kd.R_mono HO477.out (fun _ hk => ⟨hk.1.2, hk.2⟩))⟩; have n2_ : Aside0 (Kd.R (Kd.int .u64) 22 w34 w.heap.size (fun k_ => some k_ ≠ (.slice Ao29 t471.length co29 : Value).ownBlock ∧ some k_ ≠ (.slice Ao31 t475.length co31 : Value).ownBlock) (.slice Ao33 t483.length co33) t483) := ⟨by rw [← hq_]; exact (by (with_reducible repeat (first | apply Kd.R_alloc | apply Kd.R_drewN | apply Kd.R_drew)); exact Kd.R_mono HO485.out (fun _ hk => ⟨hk.1.2, hk.2⟩))⟩; have n3_ : Aside0 (w34.heap[gb478]? = some (.cells #[.bool t470, .slice Ao29 t471.length co29] 31 (0, 0))) := ⟨by rw [← hq_]; exact (by (with_reducible repeat (first | refine blk_drewN ?_ _ | refine blk_drew ?_ | refine blk_alloc ?_ _)); exact BK478.out)⟩; have n4_ : Aside0 (w34.heap[gb479]? = some (.cells #[.bool t474, .slice Ao31 t475.length co31] 31 (0, 0))) := ⟨by rw [← hq_]; exact (by (with_reducible repeat (first | refine blk_drewN ?_ _ | refine blk_drew ?_ | refine blk_alloc ?_ _)); exact BK479.out)⟩; have n5_ : Aside0 (Below w.heap.size w w34) := ⟨by rw [← hq_]; exact (by repeat (first | (with_reducible first | exact HB.out | apply below_alloc | apply pw_below_drewN | apply below_drew1 | refine below_set ?_ GE478.out | refine below_set ?_ GE479.out) | exact HB.out))⟩; clear HO473 HO477 HO485 BK478 BK479 HB hq_; have HO473 := n0_; have HO477 := n1_; have HO485 := n2_; have BK478 := n3_; have BK479 := n4_; have HB := n5_; clear n0_ n1_ n2_ n3_ n4_ n5_))
              have n0_ := Aside0.mk (Kd.R_drew HO473.out)
              have n1_ := Aside0.mk (Kd.R_drew HO477.out)
              have n2_ := Aside0.mk (Kd.R_drew HO485.out)
              have n3_ := Aside0.mk (blk_drew BK478.out)
              have n4_ := Aside0.mk (blk_drew BK479.out)
              have n5_ := Aside0.mk (below_drew1 HB.out)
              clear HO473
              clear HO477
              clear HO485
              clear BK478
              clear BK479
              clear HB
              have HO473 := n0_
              have HO477 := n1_
              have HO485 := n2_
              have BK478 := n3_
              have BK479 := n4_
              have HB := n5_
              clear n0_ n1_ n2_ n3_ n4_ n5_
              refine start_ (n := 10) (S := fun w' => w'.cell? ⟨gb478, 0, none⟩ = some (.bool t470) ∧ w'.cell? ⟨gb478, 1, none⟩ = some (.slice Ao29 t471.length co29) ∧ w'.cell? ⟨gb479, 0, none⟩ = some (.bool t474) ∧ w'.cell? ⟨gb479, 1, none⟩ = some (.slice Ao31 t475.length co31)) (ds := []) #[false, false, false, false, false, false, false, false, false, false] (by kernel_rfl) rfl rfl ⟨(blk_cell BK478.out 0).trans rfl, (blk_cell BK478.out 1).trans rfl, (blk_cell BK479.out 0).trans rfl, (blk_cell BK479.out 1).trans rfl⟩ (fun hHeld => ?_); refine with_tabW compasslaw01_SafeAdds.tab7 compasslaw01_SafeAdds.bits7 (fun HT_ HW_ => ?_)
              generalize w34.drew = w35 at HO473 HO477 HO485 BK478 BK479 HB hHeld ⊢
              refine take_ (i := 0) (N := some 45) (v := ?_) (a' := ?_) #[true, false, false, false, false, false, false, false, false, false] rfl rfl (take_ofW HT_.out HW_.out (by kernel_rfl)) (fun _ _ _ h => h) (Or.inl ⟨by rfl, ?_⟩) hHeld ?_ ?_
              rotate_left
              · rintro w' ⟨s0, s1, s2, s3⟩
                go_simp
                with_reducible rfl
              rotate_left
              · simp only [Act.put, List.setIfInBounds_toArray, List.set_cons_zero, List.set_cons_succ, i64_w, i32_w]
                rfl
              refine take_ (i := 1) (N := some 46) (v := ?_) (a' := ?_) #[true, true, false, false, false, false, false, false, false, false] rfl rfl (take_ofW HT_.out HW_.out (by kernel_rfl)) (fun _ _ _ h => h) (Or.inl ⟨by rfl, ?_⟩) hHeld ?_ ?_
              rotate_left
              · rintro w' ⟨s0, s1, s2, s3⟩
                go_simp
                with_reducible rfl
              rotate_left
              · simp only [Act.put, List.setIfInBounds_toArray, List.set_cons_zero, List.set_cons_succ, i64_w, i32_w]
                rfl
              refine one_ (i := 2) (N := some 47) #[true, true, true, false, false, false, false, false, false, false] rfl rfl (one_of HT_.out (by kernel_rfl)) (by decide) (fun K hK => ?_)
              refine goes_ Try.func32 (by kernel_rfl) rfl #[.agg #[.bool t474, .slice Ao31 t475.length co31]] (by rfl) rfl rfl (by (try simp only [List.map_toArray, List.map_cons, List.map_nil]); first | done | rfl | (simp only [List.length_drop, List.length_take]; rfl) | (simp only [*]; rfl) | (simp [*]; done) | (simp [*]; (repeat' apply And.intro) <;> rfl)) ?_
              with_reducible refine (compassref01_Less.calls t474 (fun k_ => some k_ = (.slice Ao31 t475.length co31 : Value).ownBlock) _ _ t475 t490 t491 _ ?side1 A11.out).mono ?_
              (case side1 => exact Kd.R_V (Kd.R_tight rfl (Kd.R_types (Kd.R_types (HO477.out) BK478.out (by decide)) BK479.out (by decide))))
              rintro e w36 ⟨v492, rfl, ho0, hb⟩
              refine ⟨_, rfl, ?_⟩
              have n0_ := Aside0.mk (Kd.R_below (by (with_reducible repeat (first | apply Kd.R_alloc | apply Kd.R_drewN | apply Kd.R_drew)); exact HO473.out) hb)
              have n1_ := Aside0.mk (Kd.R_below (by (with_reducible repeat (first | apply Kd.R_alloc | apply Kd.R_drewN | apply Kd.R_drew)); exact HO477.out) hb)
              have n2_ := Aside0.mk (Kd.R_below (by (with_reducible repeat (first | apply Kd.R_alloc | apply Kd.R_drewN | apply Kd.R_drew)); exact HO485.out) hb)
              have n3_ := Aside0.mk (Kd.V_lower (Kd.V_mono (ok' := fun k_ => some k_ ≠ (.slice Ao29 t471.length co29 : Value).ownBlock ∧ some k_ ≠ (.slice Ao33 t483.length co33 : Value).ownBlock ∧ k_ ≠ gb478 ∧ k_ ≠ gb479) ho0 (fun k_ hk_ => ⟨Or.elim hk_ (fun hs_ => ((Kd.R_types (Kd.R_types (HO477.out) BK478.out (by decide)) BK479.out (by decide)).1 k_ hs_.symm).1.1.1) (fun hn_ => (Kd.fresh' (Kd.R_lt (by (with_reducible repeat (first | apply Kd.R_alloc | apply Kd.R_drewN | apply Kd.R_drew)); exact HO473.out)) k_ hn_)), Or.elim hk_ (fun hs_ => ((Kd.R_types (Kd.R_types (HO477.out) BK478.out (by decide)) BK479.out (by decide)).1 k_ hs_.symm).1.1.2) (fun hn_ => (Kd.fresh' (Kd.R_lt (by (with_reducible repeat (first | apply Kd.R_alloc | apply Kd.R_drewN | apply Kd.R_drew)); exact HO485.out)) k_ hn_)), Or.elim hk_ (fun hs_ => ((Kd.R_types (Kd.R_types (HO477.out) BK478.out (by decide)) BK479.out (by decide)).1 k_ hs_.symm).1.2) (fun hn_ => (Kd.freshB (g := gb478) (o := .cells #[.bool t470, .slice Ao29 t471.length co29] 31 (0, 0)) (by (with_reducible repeat (first | refine blk_drewN ?_ _ | refine blk_drew ?_ | refine blk_alloc ?_ _)); exact BK478.out) k_ hn_)), Or.elim hk_ (fun hs_ => ((Kd.R_types (Kd.R_types (HO477.out) BK478.out (by decide)) BK479.out (by decide)).1 k_ hs_.symm).2) (fun hn_ => (Kd.freshB (g := gb479) (o := .cells #[.bool t474, .slice Ao31 t475.length co31] 31 (0, 0)) (by (with_reducible repeat (first | refine blk_drewN ?_ _ | refine blk_drew ?_ | refine blk_alloc ?_ _)); exact BK479.out) k_ hn_))⟩)) (below_size (by repeat (first | (with_reducible first | exact HB.out | apply below_alloc | apply pw_below_drewN | apply below_drew1 | refine below_set ?_ GE478.out | refine below_set ?_ GE479.out) | exact HB.out))))
              have n4_ := Aside0.mk (blk_below (g := gb478) (o := .cells #[.bool t470, .slice Ao29 t471.length co29] 31 (0, 0)) (by (with_reducible repeat (first | refine blk_drewN ?_ _ | refine blk_drew ?_ | refine blk_alloc ?_ _)); exact BK478.out) hb)
              have n5_ := Aside0.mk (blk_below (g := gb479) (o := .cells #[.bool t474, .slice Ao31 t475.length co31] 31 (0, 0)) (by (with_reducible repeat (first | refine blk_drewN ?_ _ | refine blk_drew ?_ | refine blk_alloc ?_ _)); exact BK479.out) hb)
              have n6_ := Aside0.mk (below_step (by repeat (first | (with_reducible first | exact HB.out | apply below_alloc | apply pw_below_drewN | apply below_drew1 | refine below_set ?_ GE478.out | refine below_set ?_ GE479.out) | exact HB.out)) hb)
              clear HO473
              clear HO477
              clear HO485
              clear BK478
              clear BK479
              clear HB
              have HO473 := n0_
              have HO477 := n1_
              have HO485 := n2_
              have HO493 := n3_
              have BK478 := n4_
              have BK479 := n5_
              have HB := n6_
              clear n0_ n1_ n2_ n3_ n4_ n5_ n6_
              (try clear hb)
              (try clear hb2)
              (try clear hk)
              (try clear hi)
              (try clear ho0)
              obtain ⟨Ao37, co37, eo37⟩ := Kd.V_slice HO493.out
              (first | subst eo37 | (injection eo37 with f1_ f2_ f3_; have f4_ := f1_.symm; have f5_ := f3_.symm; clear f1_ f2_ f3_; subst f4_; subst f5_))
              refine hK.out _ _ ⟨(blk_cell BK478.out 0).trans rfl, (blk_cell BK478.out 1).trans rfl, (blk_cell BK479.out 0).trans rfl, (blk_cell BK479.out 1).trans rfl⟩ (fun hHeld => ?_)
              clear hK K
              refine norm_ (a' := ?_) ?_ ?_
              rotate_left
              · show Act.put _ (some 47) _ = _
                simp only [Act.put, List.setIfInBounds_toArray, List.set_cons_zero, List.set_cons_succ, i64_w, i32_w]
                rfl
              refine one_ (i := 3) (N := some 48) #[true, true, true, true, false, false, false, false, false, false] rfl rfl (one_of HT_.out (by kernel_rfl)) (by decide) (fun K hK => ?_)
              refine goes_ Try.func13 (by kernel_rfl) rfl #[.agg #[.bool t470, .slice Ao29 t471.length co29], .agg #[.bool t490, .slice Ao37 t491.length co37]] (by rfl) rfl rfl (by (try simp only [List.map_toArray, List.map_cons, List.map_nil]); first | done | rfl | (simp only [List.length_drop, List.length_take]; rfl) | (simp only [*]; rfl) | (simp [*]; done) | (simp [*]; (repeat' apply And.intro) <;> rfl)) ?_
              with_reducible refine (compassref01_Plus.calls k t470 _ _ t471 t490 _ _ t491 t494 t495 _ ?side1 ?side2 ?side3 ?side4 A12.out).mono ?_
              (case side1 => repeat (first | exact (Kd.R_reads' HO473.out).2.2 | (with_reducible refine Kd.C_alloc ?_ _) | (with_reducible refine Kd.C_drewN ?_ _) | (with_reducible refine Kd.C_drew ?_)))
              (case side2 => exact (Kd.R_reads' HO473.out).2.1)
              (case side3 => repeat (first | exact (Kd.V_reads' HO493.out).2.2 | (with_reducible refine Kd.C_alloc ?_ _) | (with_reducible refine Kd.C_drewN ?_ _) | (with_reducible refine Kd.C_drew ?_)))
              (case side4 => exact (Kd.V_reads' HO493.out).2.1)
              rintro e w38 ⟨v496, rfl, ho0, hb⟩
              refine ⟨_, rfl, ?_⟩
              have n0_ := Aside0.mk (Kd.R_elder' (by (with_reducible repeat (first | apply Kd.R_alloc | apply Kd.R_drewN | apply Kd.R_drew)); exact HO473.out) (Kd.R_base ho0) hb)
              have n1_ := Aside0.mk (Kd.R_elder' (by (with_reducible repeat (first | apply Kd.R_alloc | apply Kd.R_drewN | apply Kd.R_drew)); exact HO477.out) (Kd.R_base ho0) hb)
              have n2_ := Aside0.mk (Kd.R_elder' (by (with_reducible repeat (first | apply Kd.R_alloc | apply Kd.R_drewN | apply Kd.R_drew)); exact HO485.out) (Kd.R_base ho0) hb)
              have n3_ := Aside0.mk (Kd.V_elder' (by (with_reducible repeat (first | apply Kd.V_alloc | apply Kd.V_drewN | apply Kd.V_drew)); exact HO493.out) (Kd.R_base ho0) hb)
              have n4_ := Aside0.mk (Kd.R_lower (Kd.R_new' (Kd.R_new' (Kd.R_new' ho0 (Kd.R_lt (by (with_reducible repeat (first | apply Kd.R_alloc | apply Kd.R_drewN | apply Kd.R_drew)); exact HO473.out))) (Kd.R_lt (by (with_reducible repeat (first | apply Kd.R_alloc | apply Kd.R_drewN | apply Kd.R_drew)); exact HO477.out))) (Kd.R_lt (by (with_reducible repeat (first | apply Kd.R_alloc | apply Kd.R_drewN | apply Kd.R_drew)); exact HO485.out))) (below_size (by repeat (first | (with_reducible first | exact HB.out | apply below_alloc | apply pw_below_drewN | apply below_drew1 | refine below_set ?_ GE478.out | refine below_set ?_ GE479.out) | exact HB.out))))
              have n5_ := Aside0.mk (blk_below (g := gb478) (o := .cells #[.bool t470, .slice Ao29 t471.length co29] 31 (0, 0)) (by (with_reducible repeat (first | refine blk_drewN ?_ _ | refine blk_drew ?_ | refine blk_alloc ?_ _)); exact BK478.out) hb)
              have n6_ := Aside0.mk (blk_below (g := gb479) (o := .cells #[.bool t474, .slice Ao31 t475.length co31] 31 (0, 0)) (by (with_reducible repeat (first | refine blk_drewN ?_ _ | refine blk_drew ?_ | refine blk_alloc ?_ _)); exact BK479.out) hb)
              have n7_ := Aside0.mk (below_step (by repeat (first | (with_reducible first | exact HB.out | apply below_alloc | apply pw_below_drewN | apply below_drew1 | refine below_set ?_ GE478.out | refine below_set ?_ GE479.out) | exact HB.out)) hb)
              clear HO473
              clear HO477
              clear HO485
              clear HO493
              clear BK478
              clear BK479
              clear HB
              have HO473 := n0_
              have HO477 := n1_
              have HO485 := n2_
              have HO493 := n3_
              have HO497 := n4_
              have BK478 := n5_
              have BK479 := n6_
              have HB := n7_
              clear n0_ n1_ n2_ n3_ n4_ n5_ n6_ n7_
              (try clear hb)
              (try clear hb2)
              (try clear hk)
              (try clear hi)
              (try clear ho0)
              obtain ⟨Ao39, co39, eo39⟩ := Kd.R_slice HO497.out
              (first | subst eo39 | (injection eo39 with f1_ f2_ f3_; have f4_ := f1_.symm; have f5_ := f3_.symm; clear f1_ f2_ f3_; subst f4_; subst f5_))
              refine hK.out _ _ ⟨(blk_cell BK478.out 0).trans rfl, (blk_cell BK478.out 1).trans rfl, (blk_cell BK479.out 0).trans rfl, (blk_cell BK479.out 1).trans rfl⟩ (fun hHeld => ?_)
              clear hK K
              refine norm_ (a' := ?_) ?_ ?_
              rotate_left
              · show Act.put _ (some 48) _ = _
                simp only [Act.put, List.setIfInBounds_toArray, List.set_cons_zero, List.set_cons_succ, i64_w, i32_w]
                rfl
              refine one_ (i := 4) (N := some 49) #[true, true, true, true, true, false, false, false, false, false] rfl rfl (one_of HT_.out (by kernel_rfl)) (by decide) (fun K hK => ?_)
              refine goes_ Try.func26 (by kernel_rfl) rfl #[.agg #[.bool t494, .slice Ao39 t495.length co39]] (by rfl) rfl rfl (by (try simp only [List.map_toArray, List.map_cons, List.map_nil]); first | done | rfl | (simp only [List.length_drop, List.length_take]; rfl) | (simp only [*]; rfl) | (simp [*]; done) | (simp [*]; (repeat' apply And.intro) <;> rfl)) ?_
              with_reducible refine (compassref01_Narrow.calls k t494 _ _ t495 t498 t499 _ ?side1 ?side2 A13.out).mono ?_
              (case side1 => repeat (first | exact (Kd.R_reads' HO497.out).2.2 | (with_reducible refine Kd.C_alloc ?_ _) | (with_reducible refine Kd.C_drewN ?_ _) | (with_reducible refine Kd.C_drew ?_)))
              (case side2 => exact (Kd.R_reads' HO497.out).2.1)
              rintro e w40 ⟨rfl, hb⟩
              refine ⟨_, rfl, ?_⟩
              have n0_ := Aside0.mk (Kd.R_below (by (with_reducible repeat (first | apply Kd.R_alloc | apply Kd.R_drewN | apply Kd.R_drew)); exact HO473.out) hb)
              have n1_ := Aside0.mk (Kd.R_below (by (with_reducible repeat (first | apply Kd.R_alloc | apply Kd.R_drewN | apply Kd.R_drew)); exact HO477.out) hb)
              have n2_ := Aside0.mk (Kd.R_below (by (with_reducible repeat (first | apply Kd.R_alloc | apply Kd.R_drewN | apply Kd.R_drew)); exact HO485.out) hb)
              have n3_ := Aside0.mk (Kd.V_below (by (with_reducible repeat (first | apply Kd.V_alloc | apply Kd.V_drewN | apply Kd.V_drew)); exact HO493.out) hb)
              have n4_ := Aside0.mk (Kd.R_below (by (with_reducible repeat (first | apply Kd.R_alloc | apply Kd.R_drewN | apply Kd.R_drew)); exact HO497.out) hb)
              have n5_ := Aside0.mk (blk_below (g := gb478) (o := .cells #[.bool t470, .slice Ao29 t471.length co29] 31 (0, 0)) (by (with_reducible repeat (first | refine blk_drewN ?_ _ | refine blk_drew ?_ | refine blk_alloc ?_ _)); exact BK478.out) hb)
              have n6_ := Aside0.mk (blk_below (g := gb479) (o := .cells #[.bool t474, .slice Ao31 t475.length co31] 31 (0, 0)) (by (with_reducible repeat (first | refine blk_drewN ?_ _ | refine blk_drew ?_ | refine blk_alloc ?_ _)); exact BK479.out) hb)
              have n7_ := Aside0.mk (below_step (by repeat (first | (with_reducible first | exact HB.out | apply below_alloc | apply pw_below_drewN | apply below_drew1 | refine below_set ?_ GE478.out | refine below_set ?_ GE479.out) | exact HB.out)) hb)
              clear HO473
              clear HO477
              clear HO485
              clear HO493
              clear HO497
              clear BK478
              clear BK479
              clear HB
              have HO473 := n0_
              have HO477 := n1_
              have HO485 := n2_
              have HO493 := n3_
              have HO497 := n4_
              have BK478 := n5_
              have BK479 := n6_
              have HB := n7_
              clear n0_ n1_ n2_ n3_ n4_ n5_ n6_ n7_
              (try clear hb)
              (try clear hb2)
              (try clear hk)
              (try clear hi)
              refine hK.out _ _ ⟨(blk_cell BK478.out 0).trans rfl, (blk_cell BK478.out 1).trans rfl, (blk_cell BK479.out 0).trans rfl, (blk_cell BK479.out 1).trans rfl⟩ (fun hHeld => ?_)
              clear hK K
              refine norm_ (a' := ?_) ?_ ?_
              rotate_left
              · show Act.put _ (some 49) _ = _
                simp only [Act.put, List.setIfInBounds_toArray, List.set_cons_zero, List.set_cons_succ, i64_w, i32_w]
                rfl
              refine pure_ (i := 5) (N := some 44) (v := ?_) (a' := ?_) #[true, true, true, true, true, true, false, false, false, false] rfl rfl (any_of HT_.out (by kernel_rfl)) (fun _ _ _ h => h) (Or.inl ⟨by rfl, ?_⟩) ?_ ?_
              rotate_left
              · intro w'
                go_simp
                with_reducible rfl
              rotate_left
              · simp only [Act.put, List.setIfInBounds_toArray, List.set_cons_zero, List.set_cons_succ, i64_w, i32_w]
                rfl
              refine pure_ (i := 6) (N := some 50) (v := ?_) (a' := ?_) #[true, true, true, true, true, true, true, false, false, false] rfl rfl (any_of HT_.out (by kernel_rfl)) (fun _ _ _ h => h) (Or.inl ⟨by rfl, ?_⟩) ?_ ?_
              rotate_left
              · intro w'
                go_simp
                with_reducible rfl
              rotate_left
              · simp only [Act.put, List.setIfInBounds_toArray, List.set_cons_zero, List.set_cons_succ, i64_w, i32_w]
                rfl
              refine pure_ (i := 7) (N := some 51) (v := ?_) (a' := ?_) #[true, true, true, true, true, true, true, true, false, false] rfl rfl (any_of HT_.out (by kernel_rfl)) (fun _ _ _ h => h) (Or.inl ⟨by rfl, ?_⟩) ?_ ?_
              rotate_left
              · intro w'
                go_simp
                with_reducible rfl
              rotate_left
              · simp only [Act.put, List.setIfInBounds_toArray, List.set_cons_zero, List.set_cons_succ, i64_w, i32_w]
                rfl
              refine pure_ (i := 8) (N := some 13) (v := ?_) (a' := ?_) #[true, true, true, true, true, true, true, true, true, false] rfl rfl (any_of HT_.out (by kernel_rfl)) (fun _ _ _ h => h) (Or.inl ⟨by rfl, ?_⟩) ?_ ?_
              rotate_left
              · intro w'
                go_simp
                with_reducible rfl
              rotate_left
              · simp only [Act.put, List.setIfInBounds_toArray, List.set_cons_zero, List.set_cons_succ, i64_w, i32_w]
                rfl
              refine pure_ (i := 9) (N := some 14) (v := ?_) (a' := ?_) #[true, true, true, true, true, true, true, true, true, true] rfl rfl (any_of HT_.out (by kernel_rfl)) (fun _ _ _ h => h) (Or.inl ⟨by rfl, ?_⟩) ?_ ?_
              rotate_left
              · intro w'
                go_simp
                with_reducible rfl
              rotate_left
              · simp only [Act.put, List.setIfInBounds_toArray, List.set_cons_zero, List.set_cons_succ, i64_w, i32_w]
                rfl
              refine done_ (done_of HT_.out (by kernel_rfl)) ?_
              try go_wp2_with (first | ((with_reducible refine gate_callee (f := 20) rfl ?_); refine goesL_ (some 55) rfl rfl Try.func20 (by kernel_rfl) rfl #[.int .i64 a0, .int .i64 a1] rfl (by (try simp only [List.map_toArray, List.map_cons, List.map_nil]); first | done | rfl | (simp only [List.length_drop, List.length_take]; rfl) | (simp only [*]; rfl) | (simp [*]; done) | (simp [*]; (repeat' apply And.intro) <;> rfl)) ?_; (with_reducible refine (safeint_Mul.calls a0 a1 t500 t501 _ A14.out).mono ?_); rintro e w41 ⟨rfl, hb⟩; refine ⟨_, rfl, ?_⟩; have n0_ := Aside0.mk (Kd.R_below (by (with_reducible repeat (first | apply Kd.R_alloc | apply Kd.R_drewN | apply Kd.R_drew)); exact HO473.out) hb); have n1_ := Aside0.mk (Kd.R_below (by (with_reducible repeat (first | apply Kd.R_alloc | apply Kd.R_drewN | apply Kd.R_drew)); exact HO477.out) hb); have n2_ := Aside0.mk (Kd.R_below (by (with_reducible repeat (first | apply Kd.R_alloc | apply Kd.R_drewN | apply Kd.R_drew)); exact HO485.out) hb); have n3_ := Aside0.mk (Kd.V_below (by (with_reducible repeat (first | apply Kd.V_alloc | apply Kd.V_drewN | apply Kd.V_drew)); exact HO493.out) hb); have n4_ := Aside0.mk (Kd.R_below (by (with_reducible repeat (first | apply Kd.R_alloc | apply Kd.R_drewN | apply Kd.R_drew)); exact HO497.out) hb); have n5_ := Aside0.mk (blk_below (g := gb478) (o := .cells #[.bool t470, .slice Ao29 t471.length co29] 31 (0, 0)) (by (with_reducible repeat (first | refine blk_drewN ?_ _ | refine blk_drew ?_ | refine blk_alloc ?_ _)); exact BK478.out) hb); have n6_ := Aside0.mk (blk_below (g := gb479) (o := .cells #[.bool t474, .slice Ao31 t475.length co31] 31 (0, 0)) (by (with_reducible repeat (first | refine blk_drewN ?_ _ | refine blk_drew ?_ | refine blk_alloc ?_ _)); exact BK479.out) hb); have n7_ := Aside0.mk (below_step (by repeat (first | (with_reducible first | exact HB.out | apply below_alloc | apply pw_below_drewN | apply below_drew1 | refine below_set ?_ GE478.out | refine below_set ?_ GE479.out) | exact HB.out)) hb); clear HO473; clear HO477; clear HO485; clear HO493; clear HO497; clear BK478; clear BK479; clear HB; have HO473 := n0_; have HO477 := n1_; have HO485 := n2_; have HO493 := n3_; have HO497 := n4_; have BK478 := n5_; have BK479 := n6_; have HB := n7_; clear n0_ n1_ n2_ n3_ n4_ n5_ n6_ n7_; (try clear hb); (try clear hb2); (try clear hk); (try clear hi); have hcz42_0 : w41.cell? ⟨gb478, 0, none⟩ = some (.bool t470) := (blk_cell BK478.out 0).trans rfl; have hcz42_1 : w41.cell? ⟨gb478, 1, none⟩ = some (.slice Ao29 t471.length co29) := (blk_cell BK478.out 1).trans rfl; have hfz42_0 := blk_frozen BK478.out 0; have hfz42_1 := blk_frozen BK478.out 1; have hcz43_0 : w41.cell? ⟨gb479, 0, none⟩ = some (.bool t474) := (blk_cell BK479.out 0).trans rfl; have hcz43_1 : w41.cell? ⟨gb479, 1, none⟩ = some (.slice Ao31 t475.length co31) := (blk_cell BK479.out 1).trans rfl; have hfz43_0 := blk_frozen BK479.out 0; have hfz43_1 := blk_frozen BK479.out 1) | ((with_reducible refine gate_callee (f := 14) rfl ?_); refine goesL_ (some 61) rfl rfl Try.func14 (by kernel_rfl) rfl #[.agg #[.bool t470, .slice Ao29 t471.length co29], .agg #[.bool t474, .slice Ao31 t475.length co31]] rfl (by (try simp only [List.map_toArray, List.map_cons, List.map_nil]); first | done | rfl | (simp only [List.length_drop, List.length_take]; rfl) | (simp only [*]; rfl) | (simp [*]; done) | (simp [*]; (repeat' apply And.intro) <;> rfl)) ?_; (with_reducible refine (compassref01_Times.calls k t470 _ _ t471 t474 _ _ t475 t502 t503 _ ?side1 ?side2 ?side3 ?side4 A15.out).mono ?_); (case side1 => repeat (first | exact (Kd.R_reads' HO473.out).2.2 | (with_reducible refine Kd.C_alloc ?_ _) | (with_reducible refine Kd.C_drewN ?_ _) | (with_reducible refine Kd.C_drew ?_))); (case side2 => exact (Kd.R_reads' HO473.out).2.1); (case side3 => repeat (first | exact (Kd.R_reads' HO477.out).2.2 | (with_reducible refine Kd.C_alloc ?_ _) | (with_reducible refine Kd.C_drewN ?_ _) | (with_reducible refine Kd.C_drew ?_))); (case side4 => exact (Kd.R_reads' HO477.out).2.1); rintro e w44 ⟨v504, rfl, ho0, hb⟩; refine ⟨_, rfl, ?_⟩; have n0_ := Aside0.mk (Kd.R_elder' (by (with_reducible repeat (first | apply Kd.R_alloc | apply Kd.R_drewN | apply Kd.R_drew)); exact HO473.out) (Kd.R_base ho0) hb); have n1_ := Aside0.mk (Kd.R_elder' (by (with_reducible repeat (first | apply Kd.R_alloc | apply Kd.R_drewN | apply Kd.R_drew)); exact HO477.out) (Kd.R_base ho0) hb); have n2_ := Aside0.mk (Kd.R_elder' (by (with_reducible repeat (first | apply Kd.R_alloc | apply Kd.R_drewN | apply Kd.R_drew)); exact HO485.out) (Kd.R_base ho0) hb); have n3_ := Aside0.mk (Kd.V_elder' (by (with_reducible repeat (first | apply Kd.V_alloc | apply Kd.V_drewN | apply Kd.V_drew)); exact HO493.out) (Kd.R_base ho0) hb); have n4_ := Aside0.mk (Kd.R_elder' (by (with_reducible repeat (first | apply Kd.R_alloc | apply Kd.R_drewN | apply Kd.R_drew)); exact HO497.out) (Kd.R_base ho0) hb); have n5_ := Aside0.mk (Kd.R_lower (Kd.R_new' (Kd.R_new' (Kd.R_new' (Kd.R_new' ho0 (Kd.R_lt (by (with_reducible repeat (first | apply Kd.R_alloc | apply Kd.R_drewN | apply Kd.R_drew)); exact HO473.out))) (Kd.R_lt (by (with_reducible repeat (first | apply Kd.R_alloc | apply Kd.R_drewN | apply Kd.R_drew)); exact HO477.out))) (Kd.R_lt (by (with_reducible repeat (first | apply Kd.R_alloc | apply Kd.R_drewN | apply Kd.R_drew)); exact HO485.out))) (Kd.R_lt (by (with_reducible repeat (first | apply Kd.R_alloc | apply Kd.R_drewN | apply Kd.R_drew)); exact HO497.out))) (below_size (by repeat (first | (with_reducible first | exact HB.out | apply below_alloc | apply pw_below_drewN | apply below_drew1 | refine below_set ?_ GE478.out | refine below_set ?_ GE479.out) | exact HB.out)))); have n6_ := Aside0.mk (blk_below (g := gb478) (o := .cells #[.bool t470, .slice Ao29 t471.length co29] 31 (0, 0)) (by (with_reducible repeat (first | refine blk_drewN ?_ _ | refine blk_drew ?_ | refine blk_alloc ?_ _)); exact BK478.out) hb); have n7_ := Aside0.mk (blk_below (g := gb479) (o := .cells #[.bool t474, .slice Ao31 t475.length co31] 31 (0, 0)) (by (with_reducible repeat (first | refine blk_drewN ?_ _ | refine blk_drew ?_ | refine blk_alloc ?_ _)); exact BK479.out) hb); have n8_ := Aside0.mk (below_step (by repeat (first | (with_reducible first | exact HB.out | apply below_alloc | apply pw_below_drewN | apply below_drew1 | refine below_set ?_ GE478.out | refine below_set ?_ GE479.out) | exact HB.out)) hb); clear HO473; clear HO477; clear HO485; clear HO493; clear HO497; clear BK478; clear BK479; clear HB; have HO473 := n0_; have HO477 := n1_; have HO485 := n2_; have HO493 := n3_; have HO497 := n4_; have HO505 := n5_; have BK478 := n6_; have BK479 := n7_; have HB := n8_; clear n0_ n1_ n2_ n3_ n4_ n5_ n6_ n7_ n8_; (try clear hb); (try clear hb2); (try clear hk); (try clear hi); (try clear ho0); obtain ⟨Ao45, co45, eo45⟩ := Kd.R_slice HO505.out; subst eo45) | ((with_reducible refine gate_callee (f := 26) rfl ?_); refine goesL_ (some 62) rfl rfl Try.func26 (by kernel_rfl) rfl #[.agg #[.bool t502, .slice Ao45 t503.length co45]] rfl (by (try simp only [List.map_toArray, List.map_cons, List.map_nil]); first | done | rfl | (simp only [List.length_drop, List.length_take]; rfl) | (simp only [*]; rfl) | (simp [*]; done) | (simp [*]; (repeat' apply And.intro) <;> rfl)) ?_; (with_reducible refine (compassref01_Narrow.calls k t502 _ _ t503 t506 t507 _ ?side1 ?side2 A16.out).mono ?_); (case side1 => repeat (first | exact (Kd.R_reads' HO505.out).2.2 | (with_reducible refine Kd.C_alloc ?_ _) | (with_reducible refine Kd.C_drewN ?_ _) | (with_reducible refine Kd.C_drew ?_))); (case side2 => exact (Kd.R_reads' HO505.out).2.1); rintro e w46 ⟨rfl, hb⟩; refine ⟨_, rfl, ?_⟩; have n0_ := Aside0.mk (Kd.R_below (by (with_reducible repeat (first | apply Kd.R_alloc | apply Kd.R_drewN | apply Kd.R_drew)); exact HO473.out) hb); have n1_ := Aside0.mk (Kd.R_below (by (with_reducible repeat (first | apply Kd.R_alloc | apply Kd.R_drewN | apply Kd.R_drew)); exact HO477.out) hb); have n2_ := Aside0.mk (Kd.R_below (by (with_reducible repeat (first | apply Kd.R_alloc | apply Kd.R_drewN | apply Kd.R_drew)); exact HO485.out) hb); have n3_ := Aside0.mk (Kd.V_below (by (with_reducible repeat (first | apply Kd.V_alloc | apply Kd.V_drewN | apply Kd.V_drew)); exact HO493.out) hb); have n4_ := Aside0.mk (Kd.R_below (by (with_reducible repeat (first | apply Kd.R_alloc | apply Kd.R_drewN | apply Kd.R_drew)); exact HO497.out) hb); have n5_ := Aside0.mk (Kd.R_below (by (with_reducible repeat (first | apply Kd.R_alloc | apply Kd.R_drewN | apply Kd.R_drew)); exact HO505.out) hb); have n6_ := Aside0.mk (blk_below (g := gb478) (o := .cells #[.bool t470, .slice Ao29 t471.length co29] 31 (0, 0)) (by (with_reducible repeat (first | refine blk_drewN ?_ _ | refine blk_drew ?_ | refine blk_alloc ?_ _)); exact BK478.out) hb); have n7_ := Aside0.mk (blk_below (g := gb479) (o := .cells #[.bool t474, .slice Ao31 t475.length co31] 31 (0, 0)) (by (with_reducible repeat (first | refine blk_drewN ?_ _ | refine blk_drew ?_ | refine blk_alloc ?_ _)); exact BK479.out) hb); have n8_ := Aside0.mk (below_step (by repeat (first | (with_reducible first | exact HB.out | apply below_alloc | apply pw_below_drewN | apply below_drew1 | refine below_set ?_ GE478.out | refine below_set ?_ GE479.out) | exact HB.out)) hb); clear HO473; clear HO477; clear HO485; clear HO493; clear HO497; clear HO505; clear BK478; clear BK479; clear HB; have HO473 := n0_; have HO477 := n1_; have HO485 := n2_; have HO493 := n3_; have HO497 := n4_; have HO505 := n5_; have BK478 := n6_; have BK479 := n7_; have HB := n8_; clear n0_ n1_ n2_ n3_ n4_ n5_ n6_ n7_ n8_; (try clear hb); (try clear hb2); (try clear hk); (try clear hi)))
              go_ret
              exact ⟨by first | rfl | (simp [errW_none, errW_some] <;> rfl) | (simp [*, errW_none, errW_some] <;> rfl), by repeat (first | (with_reducible first | exact HB.out | apply below_alloc | apply pw_below_drewN | apply below_drew1 | refine below_set ?_ GE478.out | refine below_set ?_ GE479.out) | exact HB.out)⟩
            · rw [if_neg c21] at H
              have c21b0 : (t500 == t506) = false := beq_eq_false_iff_ne.mpr c21
              have c21b1 : (t500 != t506) = true := bne_iff_ne.mpr c21
              exact absurd ((Option.some.inj H).trans HR_.out) (by decide)
          · rw [if_neg c20] at H
            have c20b0 : (t489 == t499) = false := beq_eq_false_iff_ne.mpr c20
            have c20b1 : (t489 != t499) = true := bne_iff_ne.mpr c20
            exact absurd ((Option.some.inj H).trans HR_.out) (by decide)
        · rw [if_neg c19] at H
          have c19b0 : (t488 == t498) = false := beq_eq_false_iff_ne.mpr c19
          have c19b1 : (t488 != t498) = true := bne_iff_ne.mpr c19
          exact absurd ((Option.some.inj H).trans HR_.out) (by decide)
      · rw [if_neg c18] at H
        have c18b0 : (t481 == t487) = false := beq_eq_false_iff_ne.mpr c18
        have c18b1 : (t481 != t487) = true := bne_iff_ne.mpr c18
        exact absurd ((Option.some.inj H).trans HR_.out) (by decide)
    · rw [if_neg c17] at H
      have c17b0 : (t480 == t486) = false := beq_eq_false_iff_ne.mpr c17
      have c17b1 : (t480 != t486) = true := bne_iff_ne.mpr c17
      exact absurd ((Option.some.inj H).trans HR_.out) (by decide)
  · replace c4 := Bool.eq_false_iff.mpr c4
    subst c4
    have H1 : (some false) = some r := by rw [if_neg (show ¬ (false = true) by decide)] at H; exact H
    clear H
    have H := H1
    clear H1
    exact absurd ((Option.some.inj H).trans HR_.out) (by decide)

/-- THE ONE PURE STATEMENT of compasslaw01_SafeAdds: yours. -/
def compasslaw01_SafeAdds.Pure : Prop := ∀ (a0 : Int) (a1 : Int), (Lit.int .i64 a0).wf = true → (Lit.int .i64 a1).wf = true → ∃ k, compasslaw01_SafeAdds.f k a0 a1 = some true
theorem compasslaw01_SafeAdds.walk (P : compasslaw01_SafeAdds.Pure) (a0 : Int) (a1 : Int) (w : World) (w0 : (Lit.int .i64 a0).wf = true) (w1 : (Lit.int .i64 a1).wf = true) :
    Calls Try.prog 8 #[.int .i64 a0, .int .i64 a1] w fun e w' => e = .returned (.bool true) ∧ Below w.heap.size w w' := by
  obtain ⟨k, h⟩ := P a0 a1 w0 w1
  refine (compasslaw01_SafeAdds.calls k a0 a1 true w rfl h).mono ?_
  rintro e w' ⟨rfl, hd⟩
  exact ⟨rfl, hd⟩

end Go.Proofs.Ytofcjoccnbegdaa.Q
