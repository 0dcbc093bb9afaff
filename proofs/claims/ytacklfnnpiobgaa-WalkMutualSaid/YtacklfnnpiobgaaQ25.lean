-- PRINTED by print.py (a twelfth state) out of the translation. Not trusted: Lean checks it.
import Derived.Test.YtacklfnnpiobgaaQ0
import Derived.Test.YtacklfnnpiobgaaQ6
import Derived.Test.YtacklfnnpiobgaaQ9
import Derived.Test.YtacklfnnpiobgaaQ17
import Derived.Test.YtacklfnnpiobgaaQ18
import Derived.Test.YtacklfnnpiobgaaQ24
namespace Go.Proofs.Ytacklfnnpiobgaa.Q
open Go.RowKit Go.Proofs.YtacklfnnpiobgaaW.PrintWords Go.Proofs.YtacklfnnpiobgaaW.PrintLast Go.Proofs.YtacklfnnpiobgaaW.PrintMore
attribute [local go_sem] max2_int min2_int max_two min_two max_three min_three max_four min_four   -- for this text's walks alone
set_option linter.unusedVariables false
set_option linter.unusedSimpArgs false

/-! ### compasslaw04_WalkMutual: function 10 -/
mutual
def compasslaw04_WalkMutual.j0 : Nat → Int → Int → List Int → Int → List Int → List Int → Int → List Int → Int → Bool → Int → List (S41) → Option (Bool)
  | 0, _, _, _, _, _, _, _, _, _, _, _, _ => none
  | k + 1, x1, x2, x7, x8, x9, x13, x14, x15, x16, x61, x525000, x525001 => if x61 = true then (some false) else (if x14 = 0 then (compasslaw04_WalkMutual.j1 k x1 x2 x7 x8 x9 x13 x15 (x16 != 0) x525000 x525001) else (compasslaw04_WalkMutual.j1 k x1 x2 x7 x8 x9 x13 x15 true x525000 x525001))
def compasslaw04_WalkMutual.j1 : Nat → Int → Int → List Int → Int → List Int → List Int → List Int → Bool → Int → List (S41) → Option (Bool)
  | 0, _, _, _, _, _, _, _, _, _, _ => none
  | k + 1, x1, x2, x7, x8, x9, x13, x15, x67, x525000, x525001 => if x67 = true then (if x8 = 0 then (some true) else (if (x7.length : Int) = 0 then (some ((x9.length : Int) == 0)) else (some false))) else (if (x7.length : Int) = x525000 then (if (x9.length : Int) = x525000 then (if (x13.length : Int) = x525000 then (if (x15.length : Int) = x525000 then (if 0 ≤ x2 then (if x2 < (x13.length : Int) then (if (rd x13 x2) ≥ 0 then (if 0 ≤ x1 then (if x1 < (x15.length : Int) then (if x1 < (x7.length : Int) then (if x2 < (x7.length : Int) then (if (((rd x7 x1) == (rd x7 x2)) == (decide ((rd x15 x1) ≥ 0))) = true then (if ((rd x15 x1) ≥ 0) then (if x1 < (x9.length : Int) then (if x2 < (x9.length : Int) then (if (rd x9 x1) = (rd x9 x2) then (if (rd x13 x2) < 0 then (some true) else (some ((rd x9 x1) == (rd x9 x2)))) else (some false)) else (none)) else (none)) else (if (rd x13 x2) < 0 then (some true) else (if x1 < (x9.length : Int) then (if x2 < (x9.length : Int) then (some ((rd x9 x1) == (rd x9 x2))) else (none)) else (none)))) else (some false)) else (none)) else (none)) else (none)) else (none)) else (if 0 ≤ x1 then (if x1 < (x7.length : Int) then (if x2 < (x7.length : Int) then (if (((rd x7 x1) == (rd x7 x2)) == false) = true then (if (rd x13 x2) < 0 then (some true) else (if x1 < (x9.length : Int) then (if x2 < (x9.length : Int) then (some ((rd x9 x1) == (rd x9 x2))) else (none)) else (none))) else (some false)) else (none)) else (none)) else (none))) else (none)) else (none)) else (some false)) else (some false)) else (some false)) else (some false))
end
def compasslaw04_WalkMutual.f (k : Nat) (a0_0 : Int) (l0_1 : List (S41)) (a1 : Int) (a2 : Int) : Option (Bool) := (compasslaw04_awake.f k).bind fun t525 => (if t525 = true then ((walk_Strong.f k a0_0 l0_1).bind fun bt526 => ((walk_Parts.f k a0_0 l0_1).bind fun bt530 => ((compassref03_Reverse.f k a0_0 l0_1).bind fun bt534 => ((walk_Strong.f k bt534.1 bt534.2).bind fun bt538 => ((walk_Levels.f k a0_0 l0_1 a1).bind fun bt542 => ((walk_Levels.f k a0_0 l0_1 a2).bind fun bt546 => (if bt526.2 = bt530.2 then (if bt526.2 = bt538.2 then ((compasslaw04_ints.f k bt526.1 bt538.1).bind fun t550 => (compasslaw04_WalkMutual.j0 k a1 a2 bt526.1 bt526.2 bt530.1 bt542.1 bt542.2 bt546.1 bt546.2 (!t550) a0_0 l0_1)) else (compasslaw04_WalkMutual.j0 k a1 a2 bt526.1 bt526.2 bt530.1 bt542.1 bt542.2 bt546.1 bt546.2 true a0_0 l0_1)) else (compasslaw04_WalkMutual.j0 k a1 a2 bt526.1 bt526.2 bt530.1 bt542.1 bt542.2 bt546.1 bt546.2 true a0_0 l0_1)))))))) else (some false))
theorem compasslaw04_WalkMutual.mono_l : ∀ k, (∀ y0 y1 y2 y3 y4 y5 y6 y7 y8 y9 y10 y11, LeO (compasslaw04_WalkMutual.j0 k y0 y1 y2 y3 y4 y5 y6 y7 y8 y9 y10 y11) (compasslaw04_WalkMutual.j0 (k + 1) y0 y1 y2 y3 y4 y5 y6 y7 y8 y9 y10 y11)) ∧ (∀ y0 y1 y2 y3 y4 y5 y6 y7 y8 y9, LeO (compasslaw04_WalkMutual.j1 k y0 y1 y2 y3 y4 y5 y6 y7 y8 y9) (compasslaw04_WalkMutual.j1 (k + 1) y0 y1 y2 y3 y4 y5 y6 y7 y8 y9))
  | 0 => ⟨fun _ _ _ _ _ _ _ _ _ _ _ _ r h => by simp [compasslaw04_WalkMutual.j0] at h, fun _ _ _ _ _ _ _ _ _ _ r h => by simp [compasslaw04_WalkMutual.j1] at h⟩
  | k + 1 => by
    obtain ⟨ih0, ih1⟩ := compasslaw04_WalkMutual.mono_l k
    refine ⟨?_, ?_⟩
    · intro y0 y1 y2 y3 y4 y5 y6 y7 y8 y9 y10 y11
      unfold compasslaw04_WalkMutual.j0
      repeat' first
      | (with_reducible exact ih0 _ _ _ _ _ _ _ _ _ _ _ _)
      | (with_reducible exact ih1 _ _ _ _ _ _ _ _ _ _)
      | (with_reducible exact compasslaw04_awake.mono _)
      | (with_reducible exact compasslaw04_ints.mono _ _ _)
      | (with_reducible exact compassref03_Reverse.mono _ _ _)
      | (with_reducible exact walk_Levels.mono _ _ _ _)
      | (with_reducible exact walk_Parts.mono _ _ _)
      | (with_reducible exact walk_Strong.mono _ _ _)
      | (with_reducible exact LeO.refl _)
      | (with_reducible exact LeO.none _)
      | (with_reducible refine LeO.ite ?_ ?_)
      | (with_reducible refine LeO.bind ?_ (fun _ => ?_))
      | exact ih0 _ _ _ _ _ _ _ _ _ _ _ _
      | exact ih1 _ _ _ _ _ _ _ _ _ _
      | exact compasslaw04_awake.mono _
      | exact compasslaw04_ints.mono _ _ _
      | exact compassref03_Reverse.mono _ _ _
      | exact walk_Levels.mono _ _ _ _
      | exact walk_Parts.mono _ _ _
      | exact walk_Strong.mono _ _ _
      | exact LeO.none _
      | refine LeO.ite ?_ ?_
      | refine LeO.bind ?_ (fun _ => ?_)
    · intro y0 y1 y2 y3 y4 y5 y6 y7 y8 y9
      unfold compasslaw04_WalkMutual.j1
      repeat' first
      | (with_reducible exact ih0 _ _ _ _ _ _ _ _ _ _ _ _)
      | (with_reducible exact ih1 _ _ _ _ _ _ _ _ _ _)
      | (with_reducible exact compasslaw04_awake.mono _)
      | (with_reducible exact compasslaw04_ints.mono _ _ _)
      | (with_reducible exact compassref03_Reverse.mono _ _ _)
      | (with_reducible exact walk_Levels.mono _ _ _ _)
      | (with_reducible exact walk_Parts.mono _ _ _)
      | (with_reducible exact walk_Strong.mono _ _ _)
      | (with_reducible exact LeO.refl _)
      | (with_reducible exact LeO.none _)
      | (with_reducible refine LeO.ite ?_ ?_)
      | (with_reducible refine LeO.bind ?_ (fun _ => ?_))
      | exact ih0 _ _ _ _ _ _ _ _ _ _ _ _
      | exact ih1 _ _ _ _ _ _ _ _ _ _
      | exact compasslaw04_awake.mono _
      | exact compasslaw04_ints.mono _ _ _
      | exact compassref03_Reverse.mono _ _ _
      | exact walk_Levels.mono _ _ _ _
      | exact walk_Parts.mono _ _ _
      | exact walk_Strong.mono _ _ _
      | exact LeO.none _
      | refine LeO.ite ?_ ?_
      | refine LeO.bind ?_ (fun _ => ?_)
theorem compasslaw04_WalkMutual.mono : ∀ a0 a1 a2 a3 k, LeO (compasslaw04_WalkMutual.f k a0 a1 a2 a3) (compasslaw04_WalkMutual.f (k + 1) a0 a1 a2 a3) := by
  intro a0 a1 a2 a3 k
  obtain ⟨ih0, ih1⟩ := compasslaw04_WalkMutual.mono_l k
  unfold compasslaw04_WalkMutual.f
  repeat' first
      | (with_reducible exact ih0 _ _ _ _ _ _ _ _ _ _ _ _)
      | (with_reducible exact ih1 _ _ _ _ _ _ _ _ _ _)
      | (with_reducible exact compasslaw04_awake.mono _)
      | (with_reducible exact compasslaw04_ints.mono _ _ _)
      | (with_reducible exact compassref03_Reverse.mono _ _ _)
      | (with_reducible exact walk_Levels.mono _ _ _ _)
      | (with_reducible exact walk_Parts.mono _ _ _)
      | (with_reducible exact walk_Strong.mono _ _ _)
      | (with_reducible exact LeO.refl _)
      | (with_reducible exact LeO.none _)
      | (with_reducible refine LeO.ite ?_ ?_)
      | (with_reducible refine LeO.bind ?_ (fun _ => ?_))
      | exact ih0 _ _ _ _ _ _ _ _ _ _ _ _
      | exact ih1 _ _ _ _ _ _ _ _ _ _
      | exact compasslaw04_awake.mono _
      | exact compasslaw04_ints.mono _ _ _
      | exact compassref03_Reverse.mono _ _ _
      | exact walk_Levels.mono _ _ _ _
      | exact walk_Parts.mono _ _ _
      | exact walk_Strong.mono _ _ _
      | exact LeO.none _
      | refine LeO.ite ?_ ?_
      | refine LeO.bind ?_ (fun _ => ?_)
set_option maxHeartbeats 8000000 in
set_option maxRecDepth 100000 in
theorem compasslaw04_WalkMutual.calls (k : Nat) (a0_0 : Int) (A0_1 : Option Addr) (c0_1 : Nat) (l0_1 : List (S41)) (a1 : Int) (a2 : Int) (r : Bool) (w : World) (hr0_1 : Kd.C k41 w A0_1 l0_1.length l0_1) (hc0_1 : l0_1.length ≤ c0_1) (hr_ : r = true) (h : compasslaw04_WalkMutual.f k a0_0 l0_1 a1 a2 = some r) :
    Calls Try.prog 10 #[.agg #[.int .i64 a0_0, .slice A0_1 l0_1.length c0_1], .int .i64 a1, .int .i64 a2] w fun e w' => e = .returned (.bool r) ∧ Below w.heap.size w w' := by
 have hu24 := Try.underlying24
 have HR0_1 := ak hr0_1
 have HC0_1 := ak hc0_1
 clear hr0_1 hc0_1
 have HB := ak (Below.refl w.heap.size w)
 have HR_ := ak hr_
 clear hr_
 have H : ((compasslaw04_awake.f k).bind fun t525 => (if t525 = true then ((walk_Strong.f k a0_0 l0_1).bind fun bt526 => ((walk_Parts.f k a0_0 l0_1).bind fun bt530 => ((compassref03_Reverse.f k a0_0 l0_1).bind fun bt534 => ((walk_Strong.f k bt534.1 bt534.2).bind fun bt538 => ((walk_Levels.f k a0_0 l0_1 a1).bind fun bt542 => ((walk_Levels.f k a0_0 l0_1 a2).bind fun bt546 => (if bt526.2 = bt530.2 then (if bt526.2 = bt538.2 then ((compasslaw04_ints.f k bt526.1 bt538.1).bind fun t550 => (compasslaw04_WalkMutual.j0 k a1 a2 bt526.1 bt526.2 bt530.1 bt542.1 bt542.2 bt546.1 bt546.2 (!t550) a0_0 l0_1)) else (compasslaw04_WalkMutual.j0 k a1 a2 bt526.1 bt526.2 bt530.1 bt542.1 bt542.2 bt546.1 bt546.2 true a0_0 l0_1)) else (compasslaw04_WalkMutual.j0 k a1 a2 bt526.1 bt526.2 bt530.1 bt542.1 bt542.2 bt546.1 bt546.2 true a0_0 l0_1)))))))) else (some false))) = some r := h
 clear h
 replace H := Option.bind_eq_some_iff.mp H
 obtain ⟨t525, A40, H⟩ := H
 replace H : (if t525 = true then ((walk_Strong.f k a0_0 l0_1).bind fun bt526 => ((walk_Parts.f k a0_0 l0_1).bind fun bt530 => ((compassref03_Reverse.f k a0_0 l0_1).bind fun bt534 => ((walk_Strong.f k bt534.1 bt534.2).bind fun bt538 => ((walk_Levels.f k a0_0 l0_1 a1).bind fun bt542 => ((walk_Levels.f k a0_0 l0_1 a2).bind fun bt546 => (if bt526.2 = bt530.2 then (if bt526.2 = bt538.2 then ((compasslaw04_ints.f k bt526.1 bt538.1).bind fun t550 => (compasslaw04_WalkMutual.j0 k a1 a2 bt526.1 bt526.2 bt530.1 bt542.1 bt542.2 bt546.1 bt546.2 (!t550) a0_0 l0_1)) else (compasslaw04_WalkMutual.j0 k a1 a2 bt526.1 bt526.2 bt530.1 bt542.1 bt542.2 bt546.1 bt546.2 true a0_0 l0_1)) else (compasslaw04_WalkMutual.j0 k a1 a2 bt526.1 bt526.2 bt530.1 bt542.1 bt542.2 bt546.1 bt546.2 true a0_0 l0_1)))))))) else (some false)) = some r := H
 have A4 := ak A40
 clear A40
 by_cases c5 : t525 = true
 ·
  subst c5
  have H1 : ((walk_Strong.f k a0_0 l0_1).bind fun bt526 => ((walk_Parts.f k a0_0 l0_1).bind fun bt530 => ((compassref03_Reverse.f k a0_0 l0_1).bind fun bt534 => ((walk_Strong.f k bt534.1 bt534.2).bind fun bt538 => ((walk_Levels.f k a0_0 l0_1 a1).bind fun bt542 => ((walk_Levels.f k a0_0 l0_1 a2).bind fun bt546 => (if bt526.2 = bt530.2 then (if bt526.2 = bt538.2 then ((compasslaw04_ints.f k bt526.1 bt538.1).bind fun t550 => (compasslaw04_WalkMutual.j0 k a1 a2 bt526.1 bt526.2 bt530.1 bt542.1 bt542.2 bt546.1 bt546.2 (!t550) a0_0 l0_1)) else (compasslaw04_WalkMutual.j0 k a1 a2 bt526.1 bt526.2 bt530.1 bt542.1 bt542.2 bt546.1 bt546.2 true a0_0 l0_1)) else (compasslaw04_WalkMutual.j0 k a1 a2 bt526.1 bt526.2 bt530.1 bt542.1 bt542.2 bt546.1 bt546.2 true a0_0 l0_1)))))))) = some r := by rw [if_pos rfl] at H; exact H
  clear H
  have H := H1
  clear H1
  replace H := Option.bind_eq_some_iff.mp H
  obtain ⟨⟨t526, t529⟩, A60, H⟩ := H
  replace H : ((walk_Parts.f k a0_0 l0_1).bind fun bt530 => ((compassref03_Reverse.f k a0_0 l0_1).bind fun bt534 => ((walk_Strong.f k bt534.1 bt534.2).bind fun bt538 => ((walk_Levels.f k a0_0 l0_1 a1).bind fun bt542 => ((walk_Levels.f k a0_0 l0_1 a2).bind fun bt546 => (if t529 = bt530.2 then (if t529 = bt538.2 then ((compasslaw04_ints.f k t526 bt538.1).bind fun t550 => (compasslaw04_WalkMutual.j0 k a1 a2 t526 t529 bt530.1 bt542.1 bt542.2 bt546.1 bt546.2 (!t550) a0_0 l0_1)) else (compasslaw04_WalkMutual.j0 k a1 a2 t526 t529 bt530.1 bt542.1 bt542.2 bt546.1 bt546.2 true a0_0 l0_1)) else (compasslaw04_WalkMutual.j0 k a1 a2 t526 t529 bt530.1 bt542.1 bt542.2 bt546.1 bt546.2 true a0_0 l0_1))))))) = some r := H
  have A6 := ak A60
  clear A60
  replace H := Option.bind_eq_some_iff.mp H
  obtain ⟨⟨t530, t533⟩, A70, H⟩ := H
  replace H : ((compassref03_Reverse.f k a0_0 l0_1).bind fun bt534 => ((walk_Strong.f k bt534.1 bt534.2).bind fun bt538 => ((walk_Levels.f k a0_0 l0_1 a1).bind fun bt542 => ((walk_Levels.f k a0_0 l0_1 a2).bind fun bt546 => (if t529 = t533 then (if t529 = bt538.2 then ((compasslaw04_ints.f k t526 bt538.1).bind fun t550 => (compasslaw04_WalkMutual.j0 k a1 a2 t526 t529 t530 bt542.1 bt542.2 bt546.1 bt546.2 (!t550) a0_0 l0_1)) else (compasslaw04_WalkMutual.j0 k a1 a2 t526 t529 t530 bt542.1 bt542.2 bt546.1 bt546.2 true a0_0 l0_1)) else (compasslaw04_WalkMutual.j0 k a1 a2 t526 t529 t530 bt542.1 bt542.2 bt546.1 bt546.2 true a0_0 l0_1)))))) = some r := H
  have A7 := ak A70
  clear A70
  replace H := Option.bind_eq_some_iff.mp H
  obtain ⟨⟨t534, t535⟩, A80, H⟩ := H
  replace H : ((walk_Strong.f k t534 t535).bind fun bt538 => ((walk_Levels.f k a0_0 l0_1 a1).bind fun bt542 => ((walk_Levels.f k a0_0 l0_1 a2).bind fun bt546 => (if t529 = t533 then (if t529 = bt538.2 then ((compasslaw04_ints.f k t526 bt538.1).bind fun t550 => (compasslaw04_WalkMutual.j0 k a1 a2 t526 t529 t530 bt542.1 bt542.2 bt546.1 bt546.2 (!t550) a0_0 l0_1)) else (compasslaw04_WalkMutual.j0 k a1 a2 t526 t529 t530 bt542.1 bt542.2 bt546.1 bt546.2 true a0_0 l0_1)) else (compasslaw04_WalkMutual.j0 k a1 a2 t526 t529 t530 bt542.1 bt542.2 bt546.1 bt546.2 true a0_0 l0_1))))) = some r := H
  have A8 := ak A80
  clear A80
  replace H := Option.bind_eq_some_iff.mp H
  obtain ⟨⟨t538, t541⟩, A90, H⟩ := H
  replace H : ((walk_Levels.f k a0_0 l0_1 a1).bind fun bt542 => ((walk_Levels.f k a0_0 l0_1 a2).bind fun bt546 => (if t529 = t533 then (if t529 = t541 then ((compasslaw04_ints.f k t526 t538).bind fun t550 => (compasslaw04_WalkMutual.j0 k a1 a2 t526 t529 t530 bt542.1 bt542.2 bt546.1 bt546.2 (!t550) a0_0 l0_1)) else (compasslaw04_WalkMutual.j0 k a1 a2 t526 t529 t530 bt542.1 bt542.2 bt546.1 bt546.2 true a0_0 l0_1)) else (compasslaw04_WalkMutual.j0 k a1 a2 t526 t529 t530 bt542.1 bt542.2 bt546.1 bt546.2 true a0_0 l0_1)))) = some r := H
  have A9 := ak A90
  clear A90
  replace H := Option.bind_eq_some_iff.mp H
  obtain ⟨⟨t542, t545⟩, A100, H⟩ := H
  replace H : ((walk_Levels.f k a0_0 l0_1 a2).bind fun bt546 => (if t529 = t533 then (if t529 = t541 then ((compasslaw04_ints.f k t526 t538).bind fun t550 => (compasslaw04_WalkMutual.j0 k a1 a2 t526 t529 t530 t542 t545 bt546.1 bt546.2 (!t550) a0_0 l0_1)) else (compasslaw04_WalkMutual.j0 k a1 a2 t526 t529 t530 t542 t545 bt546.1 bt546.2 true a0_0 l0_1)) else (compasslaw04_WalkMutual.j0 k a1 a2 t526 t529 t530 t542 t545 bt546.1 bt546.2 true a0_0 l0_1))) = some r := H
  have A10 := ak A100
  clear A100
  replace H := Option.bind_eq_some_iff.mp H
  obtain ⟨⟨t546, t549⟩, A110, H⟩ := H
  replace H : (if t529 = t533 then (if t529 = t541 then ((compasslaw04_ints.f k t526 t538).bind fun t550 => (compasslaw04_WalkMutual.j0 k a1 a2 t526 t529 t530 t542 t545 t546 t549 (!t550) a0_0 l0_1)) else (compasslaw04_WalkMutual.j0 k a1 a2 t526 t529 t530 t542 t545 t546 t549 true a0_0 l0_1)) else (compasslaw04_WalkMutual.j0 k a1 a2 t526 t529 t530 t542 t545 t546 t549 true a0_0 l0_1)) = some r := H
  have A11 := ak A110
  clear A110
  have HC12 := ak H
  clear H
  go_enter Try.func10, Try.ntmps10
  go_upto_region 8 with (first | ((with_reducible refine gate_dst (N := 3) rfl ?_); (try (refine gate_guard (by rfl) ?_; dsimp only)); refine box_event ?hg (N := 3) ?hd (cs := #[.int .i64 a0_0, .slice A0_1 l0_1.length c0_1]) (t := 24) ?hr ?_; (case hd => rfl); (case hg => rfl); (case hr => first | (go_simp; done) | (go_simp; rfl)); intro gb524 hg w13 hbox hb; have n0_ := ak (below_step lb hb); have n1_ := ak (hbox); have n2_ := ak ((by rw [hg]; exact (below_size lb) : w.heap.size ≤ gb524)); have n3_ := ak ((by rw [hg]; exact (below_size lb) : w.heap.size ≤ gb524)); clear HB; have HB := n0_; have BK524 := n1_; have GW524 := n2_; have GE524 := n3_; clear n0_ n1_ n2_ n3_; clear hb hbox hg) | (go_at_call 12; (with_reducible refine (compasslaw04_awake.calls k  true _ A4.out).mono ?_); rintro e w14 ⟨rfl, hb⟩; have n0_ := ak (blk_below (bx BK524.out) hb); have n1_ := ak (below_step lb hb); clear BK524; clear HB; have BK524 := n0_; have HB := n1_; clear n0_ n1_; (try clear hb); (try clear hb2); (try clear hk); (try clear hi); have hcz15_0 : w14.cell? ⟨gb524, 0, none⟩ = some (.int .i64 a0_0) := (blk_cell BK524.out 0).trans rfl; have hcz15_1 : w14.cell? ⟨gb524, 1, none⟩ = some (.slice A0_1 l0_1.length c0_1) := (blk_cell BK524.out 1).trans rfl; have hfz15_0 := blk_frozen BK524.out 0; have hfz15_1 := blk_frozen BK524.out 1) | (go_at_call 21; (with_reducible refine (walk_Strong.calls k a0_0 _ _ l0_1 t526 t529 _ ?side1 ?side2 A6.out).mono ?_); (case side1 => repeat (first | exact (Kd.C_below HR0_1.out HB.out) | (with_reducible refine Kd.C_alloc ?_ _) | (with_reducible refine Kd.C_drewN ?_ _) | (with_reducible refine Kd.C_drew ?_))); (case side2 => exact HC0_1.out); rintro e w16 ⟨v527, rfl, ho0, hb⟩; have n0_ := ak (Kd.R_lower ho0 (below_size lb)); have n1_ := ak (blk_below (bx BK524.out) hb); have n2_ := ak (below_step lb hb); clear BK524; clear HB; have HO528 := n0_; have BK524 := n1_; have HB := n2_; clear n0_ n1_ n2_; (try clear hb); (try clear hb2); (try clear hk); (try clear hi); (try clear ho0); have hcz17_0 : w16.cell? ⟨gb524, 0, none⟩ = some (.int .i64 a0_0) := (blk_cell BK524.out 0).trans rfl; have hcz17_1 : w16.cell? ⟨gb524, 1, none⟩ = some (.slice A0_1 l0_1.length c0_1) := (blk_cell BK524.out 1).trans rfl; have hfz17_0 := blk_frozen BK524.out 0; have hfz17_1 := blk_frozen BK524.out 1) | (go_at_call 23; (with_reducible refine (walk_Parts.calls k a0_0 _ _ l0_1 t530 t533 _ ?side1 ?side2 A7.out).mono ?_); (case side1 => repeat (first | exact (Kd.C_below HR0_1.out HB.out) | (with_reducible refine Kd.C_alloc ?_ _) | (with_reducible refine Kd.C_drewN ?_ _) | (with_reducible refine Kd.C_drew ?_))); (case side2 => exact HC0_1.out); rintro e w18 ⟨v531, rfl, ho0, hb⟩; have n0_ := ak (Kd.R_elder' (rx HO528.out) (Kd.R_base ho0) hb); have n1_ := ak (Kd.R_lower (Kd.R_new' ho0 (Kd.R_lt (rx HO528.out))) (below_size lb)); have n2_ := ak (blk_below (bx BK524.out) hb); have n3_ := ak (below_step lb hb); clear HO528; clear BK524; clear HB; have HO528 := n0_; have HO532 := n1_; have BK524 := n2_; have HB := n3_; clear n0_ n1_ n2_ n3_; (try clear hb); (try clear hb2); (try clear hk); (try clear hi); (try clear ho0); have hcz19_0 : w18.cell? ⟨gb524, 0, none⟩ = some (.int .i64 a0_0) := (blk_cell BK524.out 0).trans rfl; have hcz19_1 : w18.cell? ⟨gb524, 1, none⟩ = some (.slice A0_1 l0_1.length c0_1) := (blk_cell BK524.out 1).trans rfl; have hfz19_0 := blk_frozen BK524.out 0; have hfz19_1 := blk_frozen BK524.out 1) | (go_at_call 26; (with_reducible refine (compassref03_Reverse.calls k a0_0 _ _ l0_1 t534 t535 _ ?side1 ?side2 A8.out).mono ?_); (case side1 => repeat (first | exact (Kd.C_below HR0_1.out HB.out) | (with_reducible refine Kd.C_alloc ?_ _) | (with_reducible refine Kd.C_drewN ?_ _) | (with_reducible refine Kd.C_drew ?_))); (case side2 => exact HC0_1.out); rintro e w20 ⟨v536, rfl, ho0, hb⟩; have n0_ := ak (Kd.R_below (rx HO528.out) hb); have n1_ := ak (Kd.R_below (rx HO532.out) hb); have n2_ := ak (Kd.R_lower ho0 (below_size lb)); have n3_ := ak (blk_below (bx BK524.out) hb); have n4_ := ak (below_step lb hb); clear HO528; clear HO532; clear BK524; clear HB; have HO528 := n0_; have HO532 := n1_; have HO537 := n2_; have BK524 := n3_; have HB := n4_; clear n0_ n1_ n2_ n3_ n4_; (try clear hb); (try clear hb2); (try clear hk); (try clear hi); (try clear ho0); obtain ⟨Ao21, co21, eo21⟩ := Kd.R_slice HO537.out; subst eo21) | (go_at_call 21; (with_reducible refine (walk_Strong.calls k t534 _ _ t535 t538 t541 _ ?side1 ?side2 A9.out).mono ?_); (case side1 => repeat (first | exact (Kd.R_reads' HO537.out).2.2 | (with_reducible refine Kd.C_alloc ?_ _) | (with_reducible refine Kd.C_drewN ?_ _) | (with_reducible refine Kd.C_drew ?_))); (case side2 => exact (Kd.R_reads' HO537.out).2.1); rintro e w22 ⟨v539, rfl, ho0, hb⟩; have n0_ := ak (Kd.R_elder' (rx HO528.out) (Kd.R_base ho0) hb); have n1_ := ak (Kd.R_elder' (rx HO532.out) (Kd.R_base ho0) hb); have n2_ := ak (Kd.R_below (rx HO537.out) hb); have n3_ := ak (Kd.R_lower (Kd.R_new' (Kd.R_new' ho0 (Kd.R_lt (rx HO528.out))) (Kd.R_lt (rx HO532.out))) (below_size lb)); have n4_ := ak (blk_below (bx BK524.out) hb); have n5_ := ak (below_step lb hb); clear HO528; clear HO532; clear HO537; clear BK524; clear HB; have HO528 := n0_; have HO532 := n1_; have HO537 := n2_; have HO540 := n3_; have BK524 := n4_; have HB := n5_; clear n0_ n1_ n2_ n3_ n4_ n5_; (try clear hb); (try clear hb2); (try clear hk); (try clear hi); (try clear ho0); have hcz23_0 : w22.cell? ⟨gb524, 0, none⟩ = some (.int .i64 a0_0) := (blk_cell BK524.out 0).trans rfl; have hcz23_1 : w22.cell? ⟨gb524, 1, none⟩ = some (.slice A0_1 l0_1.length c0_1) := (blk_cell BK524.out 1).trans rfl; have hfz23_0 := blk_frozen BK524.out 0; have hfz23_1 := blk_frozen BK524.out 1) | (go_at_call 13; (with_reducible refine (walk_Levels.calls k a0_0 _ _ l0_1 a1 t542 t545 _ ?side1 ?side2 A10.out).mono ?_); (case side1 => repeat (first | exact (Kd.C_below HR0_1.out HB.out) | (with_reducible refine Kd.C_alloc ?_ _) | (with_reducible refine Kd.C_drewN ?_ _) | (with_reducible refine Kd.C_drew ?_))); (case side2 => exact HC0_1.out); rintro e w24 ⟨v543, rfl, ho0, hb⟩; have n0_ := ak (Kd.R_elder' (rx HO528.out) (Kd.R_base ho0) hb); have n1_ := ak (Kd.R_elder' (rx HO532.out) (Kd.R_base ho0) hb); have n2_ := ak (Kd.R_below (rx HO537.out) hb); have n3_ := ak (Kd.R_elder' (rx HO540.out) (Kd.R_base ho0) hb); have n4_ := ak (Kd.R_lower (Kd.R_new' (Kd.R_new' (Kd.R_new' ho0 (Kd.R_lt (rx HO528.out))) (Kd.R_lt (rx HO532.out))) (Kd.R_lt (rx HO540.out))) (below_size lb)); have n5_ := ak (blk_below (bx BK524.out) hb); have n6_ := ak (below_step lb hb); clear HO528; clear HO532; clear HO537; clear HO540; clear BK524; clear HB; have HO528 := n0_; have HO532 := n1_; have HO537 := n2_; have HO540 := n3_; have HO544 := n4_; have BK524 := n5_; have HB := n6_; clear n0_ n1_ n2_ n3_ n4_ n5_ n6_; (try clear hb); (try clear hb2); (try clear hk); (try clear hi); (try clear ho0); have hcz25_0 : w24.cell? ⟨gb524, 0, none⟩ = some (.int .i64 a0_0) := (blk_cell BK524.out 0).trans rfl; have hcz25_1 : w24.cell? ⟨gb524, 1, none⟩ = some (.slice A0_1 l0_1.length c0_1) := (blk_cell BK524.out 1).trans rfl; have hfz25_0 := blk_frozen BK524.out 0; have hfz25_1 := blk_frozen BK524.out 1) | (go_at_call 13; (with_reducible refine (walk_Levels.calls k a0_0 _ _ l0_1 a2 t546 t549 _ ?side1 ?side2 A11.out).mono ?_); (case side1 => repeat (first | exact (Kd.C_below HR0_1.out HB.out) | (with_reducible refine Kd.C_alloc ?_ _) | (with_reducible refine Kd.C_drewN ?_ _) | (with_reducible refine Kd.C_drew ?_))); (case side2 => exact HC0_1.out); rintro e w26 ⟨v547, rfl, ho0, hb⟩; have n0_ := ak (Kd.R_elder' (rx HO528.out) (Kd.R_base ho0) hb); have n1_ := ak (Kd.R_elder' (rx HO532.out) (Kd.R_base ho0) hb); have n2_ := ak (Kd.R_below (rx HO537.out) hb); have n3_ := ak (Kd.R_elder' (rx HO540.out) (Kd.R_base ho0) hb); have n4_ := ak (Kd.R_elder' (rx HO544.out) (Kd.R_base ho0) hb); have n5_ := ak (Kd.R_lower (Kd.R_new' (Kd.R_new' (Kd.R_new' (Kd.R_new' ho0 (Kd.R_lt (rx HO528.out))) (Kd.R_lt (rx HO532.out))) (Kd.R_lt (rx HO540.out))) (Kd.R_lt (rx HO544.out))) (below_size lb)); have n6_ := ak (blk_below (bx BK524.out) hb); have n7_ := ak (below_step lb hb); clear HO528; clear HO532; clear HO537; clear HO540; clear HO544; clear BK524; clear HB; have HO528 := n0_; have HO532 := n1_; have HO537 := n2_; have HO540 := n3_; have HO544 := n4_; have HO548 := n5_; have BK524 := n6_; have HB := n7_; clear n0_ n1_ n2_ n3_ n4_ n5_ n6_ n7_; (try clear hb); (try clear hb2); (try clear hk); (try clear hi); (try clear ho0)))
  repeat (go_quiet (first | ((with_reducible refine gate_dst (N := 3) rfl ?_); (try (refine gate_guard (by rfl) ?_; dsimp only)); refine box_event ?hg (N := 3) ?hd (cs := #[.int .i64 a0_0, .slice A0_1 l0_1.length c0_1]) (t := 24) ?hr ?_; (case hd => rfl); (case hg => rfl); (case hr => first | (go_simp; done) | (go_simp; rfl)); intro gb524 hg w13 hbox hb; have n0_ := ak (below_step lb hb); have n1_ := ak (hbox); have n2_ := ak ((by rw [hg]; exact (below_size lb) : w.heap.size ≤ gb524)); have n3_ := ak ((by rw [hg]; exact (below_size lb) : w.heap.size ≤ gb524)); clear HB; have HB := n0_; have BK524 := n1_; have GW524 := n2_; have GE524 := n3_; clear n0_ n1_ n2_ n3_; clear hb hbox hg) | (go_at_call 12; (with_reducible refine (compasslaw04_awake.calls k  true _ A4.out).mono ?_); rintro e w14 ⟨rfl, hb⟩; have n0_ := ak (blk_below (bx BK524.out) hb); have n1_ := ak (below_step lb hb); clear BK524; clear HB; have BK524 := n0_; have HB := n1_; clear n0_ n1_; (try clear hb); (try clear hb2); (try clear hk); (try clear hi); have hcz15_0 : w14.cell? ⟨gb524, 0, none⟩ = some (.int .i64 a0_0) := (blk_cell BK524.out 0).trans rfl; have hcz15_1 : w14.cell? ⟨gb524, 1, none⟩ = some (.slice A0_1 l0_1.length c0_1) := (blk_cell BK524.out 1).trans rfl; have hfz15_0 := blk_frozen BK524.out 0; have hfz15_1 := blk_frozen BK524.out 1) | (go_at_call 21; (with_reducible refine (walk_Strong.calls k a0_0 _ _ l0_1 t526 t529 _ ?side1 ?side2 A6.out).mono ?_); (case side1 => repeat (first | exact (Kd.C_below HR0_1.out HB.out) | (with_reducible refine Kd.C_alloc ?_ _) | (with_reducible refine Kd.C_drewN ?_ _) | (with_reducible refine Kd.C_drew ?_))); (case side2 => exact HC0_1.out); rintro e w16 ⟨v527, rfl, ho0, hb⟩; have n0_ := ak (Kd.R_lower ho0 (below_size lb)); have n1_ := ak (blk_below (bx BK524.out) hb); have n2_ := ak (below_step lb hb); clear BK524; clear HB; have HO528 := n0_; have BK524 := n1_; have HB := n2_; clear n0_ n1_ n2_; (try clear hb); (try clear hb2); (try clear hk); (try clear hi); (try clear ho0); have hcz17_0 : w16.cell? ⟨gb524, 0, none⟩ = some (.int .i64 a0_0) := (blk_cell BK524.out 0).trans rfl; have hcz17_1 : w16.cell? ⟨gb524, 1, none⟩ = some (.slice A0_1 l0_1.length c0_1) := (blk_cell BK524.out 1).trans rfl; have hfz17_0 := blk_frozen BK524.out 0; have hfz17_1 := blk_frozen BK524.out 1) | (go_at_call 23; (with_reducible refine (walk_Parts.calls k a0_0 _ _ l0_1 t530 t533 _ ?side1 ?side2 A7.out).mono ?_); (case side1 => repeat (first | exact (Kd.C_below HR0_1.out HB.out) | (with_reducible refine Kd.C_alloc ?_ _) | (with_reducible refine Kd.C_drewN ?_ _) | (with_reducible refine Kd.C_drew ?_))); (case side2 => exact HC0_1.out); rintro e w18 ⟨v531, rfl, ho0, hb⟩; have n0_ := ak (Kd.R_elder' (rx HO528.out) (Kd.R_base ho0) hb); have n1_ := ak (Kd.R_lower (Kd.R_new' ho0 (Kd.R_lt (rx HO528.out))) (below_size lb)); have n2_ := ak (blk_below (bx BK524.out) hb); have n3_ := ak (below_step lb hb); clear HO528; clear BK524; clear HB; have HO528 := n0_; have HO532 := n1_; have BK524 := n2_; have HB := n3_; clear n0_ n1_ n2_ n3_; (try clear hb); (try clear hb2); (try clear hk); (try clear hi); (try clear ho0); have hcz19_0 : w18.cell? ⟨gb524, 0, none⟩ = some (.int .i64 a0_0) := (blk_cell BK524.out 0).trans rfl; have hcz19_1 : w18.cell? ⟨gb524, 1, none⟩ = some (.slice A0_1 l0_1.length c0_1) := (blk_cell BK524.out 1).trans rfl; have hfz19_0 := blk_frozen BK524.out 0; have hfz19_1 := blk_frozen BK524.out 1) | (go_at_call 26; (with_reducible refine (compassref03_Reverse.calls k a0_0 _ _ l0_1 t534 t535 _ ?side1 ?side2 A8.out).mono ?_); (case side1 => repeat (first | exact (Kd.C_below HR0_1.out HB.out) | (with_reducible refine Kd.C_alloc ?_ _) | (with_reducible refine Kd.C_drewN ?_ _) | (with_reducible refine Kd.C_drew ?_))); (case side2 => exact HC0_1.out); rintro e w20 ⟨v536, rfl, ho0, hb⟩; have n0_ := ak (Kd.R_below (rx HO528.out) hb); have n1_ := ak (Kd.R_below (rx HO532.out) hb); have n2_ := ak (Kd.R_lower ho0 (below_size lb)); have n3_ := ak (blk_below (bx BK524.out) hb); have n4_ := ak (below_step lb hb); clear HO528; clear HO532; clear BK524; clear HB; have HO528 := n0_; have HO532 := n1_; have HO537 := n2_; have BK524 := n3_; have HB := n4_; clear n0_ n1_ n2_ n3_ n4_; (try clear hb); (try clear hb2); (try clear hk); (try clear hi); (try clear ho0); obtain ⟨Ao21, co21, eo21⟩ := Kd.R_slice HO537.out; subst eo21) | (go_at_call 21; (with_reducible refine (walk_Strong.calls k t534 _ _ t535 t538 t541 _ ?side1 ?side2 A9.out).mono ?_); (case side1 => repeat (first | exact (Kd.R_reads' HO537.out).2.2 | (with_reducible refine Kd.C_alloc ?_ _) | (with_reducible refine Kd.C_drewN ?_ _) | (with_reducible refine Kd.C_drew ?_))); (case side2 => exact (Kd.R_reads' HO537.out).2.1); rintro e w22 ⟨v539, rfl, ho0, hb⟩; have n0_ := ak (Kd.R_elder' (rx HO528.out) (Kd.R_base ho0) hb); have n1_ := ak (Kd.R_elder' (rx HO532.out) (Kd.R_base ho0) hb); have n2_ := ak (Kd.R_below (rx HO537.out) hb); have n3_ := ak (Kd.R_lower (Kd.R_new' (Kd.R_new' ho0 (Kd.R_lt (rx HO528.out))) (Kd.R_lt (rx HO532.out))) (below_size lb)); have n4_ := ak (blk_below (bx BK524.out) hb); have n5_ := ak (below_step lb hb); clear HO528; clear HO532; clear HO537; clear BK524; clear HB; have HO528 := n0_; have HO532 := n1_; have HO537 := n2_; have HO540 := n3_; have BK524 := n4_; have HB := n5_; clear n0_ n1_ n2_ n3_ n4_ n5_; (try clear hb); (try clear hb2); (try clear hk); (try clear hi); (try clear ho0); have hcz23_0 : w22.cell? ⟨gb524, 0, none⟩ = some (.int .i64 a0_0) := (blk_cell BK524.out 0).trans rfl; have hcz23_1 : w22.cell? ⟨gb524, 1, none⟩ = some (.slice A0_1 l0_1.length c0_1) := (blk_cell BK524.out 1).trans rfl; have hfz23_0 := blk_frozen BK524.out 0; have hfz23_1 := blk_frozen BK524.out 1) | (go_at_call 13; (with_reducible refine (walk_Levels.calls k a0_0 _ _ l0_1 a1 t542 t545 _ ?side1 ?side2 A10.out).mono ?_); (case side1 => repeat (first | exact (Kd.C_below HR0_1.out HB.out) | (with_reducible refine Kd.C_alloc ?_ _) | (with_reducible refine Kd.C_drewN ?_ _) | (with_reducible refine Kd.C_drew ?_))); (case side2 => exact HC0_1.out); rintro e w24 ⟨v543, rfl, ho0, hb⟩; have n0_ := ak (Kd.R_elder' (rx HO528.out) (Kd.R_base ho0) hb); have n1_ := ak (Kd.R_elder' (rx HO532.out) (Kd.R_base ho0) hb); have n2_ := ak (Kd.R_below (rx HO537.out) hb); have n3_ := ak (Kd.R_elder' (rx HO540.out) (Kd.R_base ho0) hb); have n4_ := ak (Kd.R_lower (Kd.R_new' (Kd.R_new' (Kd.R_new' ho0 (Kd.R_lt (rx HO528.out))) (Kd.R_lt (rx HO532.out))) (Kd.R_lt (rx HO540.out))) (below_size lb)); have n5_ := ak (blk_below (bx BK524.out) hb); have n6_ := ak (below_step lb hb); clear HO528; clear HO532; clear HO537; clear HO540; clear BK524; clear HB; have HO528 := n0_; have HO532 := n1_; have HO537 := n2_; have HO540 := n3_; have HO544 := n4_; have BK524 := n5_; have HB := n6_; clear n0_ n1_ n2_ n3_ n4_ n5_ n6_; (try clear hb); (try clear hb2); (try clear hk); (try clear hi); (try clear ho0); have hcz25_0 : w24.cell? ⟨gb524, 0, none⟩ = some (.int .i64 a0_0) := (blk_cell BK524.out 0).trans rfl; have hcz25_1 : w24.cell? ⟨gb524, 1, none⟩ = some (.slice A0_1 l0_1.length c0_1) := (blk_cell BK524.out 1).trans rfl; have hfz25_0 := blk_frozen BK524.out 0; have hfz25_1 := blk_frozen BK524.out 1) | (go_at_call 13; (with_reducible refine (walk_Levels.calls k a0_0 _ _ l0_1 a2 t546 t549 _ ?side1 ?side2 A11.out).mono ?_); (case side1 => repeat (first | exact (Kd.C_below HR0_1.out HB.out) | (with_reducible refine Kd.C_alloc ?_ _) | (with_reducible refine Kd.C_drewN ?_ _) | (with_reducible refine Kd.C_drew ?_))); (case side2 => exact HC0_1.out); rintro e w26 ⟨v547, rfl, ho0, hb⟩; have n0_ := ak (Kd.R_elder' (rx HO528.out) (Kd.R_base ho0) hb); have n1_ := ak (Kd.R_elder' (rx HO532.out) (Kd.R_base ho0) hb); have n2_ := ak (Kd.R_below (rx HO537.out) hb); have n3_ := ak (Kd.R_elder' (rx HO540.out) (Kd.R_base ho0) hb); have n4_ := ak (Kd.R_elder' (rx HO544.out) (Kd.R_base ho0) hb); have n5_ := ak (Kd.R_lower (Kd.R_new' (Kd.R_new' (Kd.R_new' (Kd.R_new' ho0 (Kd.R_lt (rx HO528.out))) (Kd.R_lt (rx HO532.out))) (Kd.R_lt (rx HO540.out))) (Kd.R_lt (rx HO544.out))) (below_size lb)); have n6_ := ak (blk_below (bx BK524.out) hb); have n7_ := ak (below_step lb hb); clear HO528; clear HO532; clear HO537; clear HO540; clear HO544; clear BK524; clear HB; have HO528 := n0_; have HO532 := n1_; have HO537 := n2_; have HO540 := n3_; have HO544 := n4_; have HO548 := n5_; have BK524 := n6_; have HB := n7_; clear n0_ n1_ n2_ n3_ n4_ n5_ n6_ n7_; (try clear hb); (try clear hb2); (try clear hk); (try clear hi); (try clear ho0))); go_upto_region 8 with (first | ((with_reducible refine gate_dst (N := 3) rfl ?_); (try (refine gate_guard (by rfl) ?_; dsimp only)); refine box_event ?hg (N := 3) ?hd (cs := #[.int .i64 a0_0, .slice A0_1 l0_1.length c0_1]) (t := 24) ?hr ?_; (case hd => rfl); (case hg => rfl); (case hr => first | (go_simp; done) | (go_simp; rfl)); intro gb524 hg w13 hbox hb; have n0_ := ak (below_step lb hb); have n1_ := ak (hbox); have n2_ := ak ((by rw [hg]; exact (below_size lb) : w.heap.size ≤ gb524)); have n3_ := ak ((by rw [hg]; exact (below_size lb) : w.heap.size ≤ gb524)); clear HB; have HB := n0_; have BK524 := n1_; have GW524 := n2_; have GE524 := n3_; clear n0_ n1_ n2_ n3_; clear hb hbox hg) | (go_at_call 12; (with_reducible refine (compasslaw04_awake.calls k  true _ A4.out).mono ?_); rintro e w14 ⟨rfl, hb⟩; have n0_ := ak (blk_below (bx BK524.out) hb); have n1_ := ak (below_step lb hb); clear BK524; clear HB; have BK524 := n0_; have HB := n1_; clear n0_ n1_; (try clear hb); (try clear hb2); (try clear hk); (try clear hi); have hcz15_0 : w14.cell? ⟨gb524, 0, none⟩ = some (.int .i64 a0_0) := (blk_cell BK524.out 0).trans rfl; have hcz15_1 : w14.cell? ⟨gb524, 1, none⟩ = some (.slice A0_1 l0_1.length c0_1) := (blk_cell BK524.out 1).trans rfl; have hfz15_0 := blk_frozen BK524.out 0; have hfz15_1 := blk_frozen BK524.out 1) | (go_at_call 21; (with_reducible refine (walk_Strong.calls k a0_0 _ _ l0_1 t526 t529 _ ?side1 ?side2 A6.out).mono ?_); (case side1 => repeat (first | exact (Kd.C_below HR0_1.out HB.out) | (with_reducible refine Kd.C_alloc ?_ _) | (with_reducible refine Kd.C_drewN ?_ _) | (with_reducible refine Kd.C_drew ?_))); (case side2 => exact HC0_1.out); rintro e w16 ⟨v527, rfl, ho0, hb⟩; have n0_ := ak (Kd.R_lower ho0 (below_size lb)); have n1_ := ak (blk_below (bx BK524.out) hb); have n2_ := ak (below_step lb hb); clear BK524; clear HB; have HO528 := n0_; have BK524 := n1_; have HB := n2_; clear n0_ n1_ n2_; (try clear hb); (try clear hb2); (try clear hk); (try clear hi); (try clear ho0); have hcz17_0 : w16.cell? ⟨gb524, 0, none⟩ = some (.int .i64 a0_0) := (blk_cell BK524.out 0).trans rfl; have hcz17_1 : w16.cell? ⟨gb524, 1, none⟩ = some (.slice A0_1 l0_1.length c0_1) := (blk_cell BK524.out 1).trans rfl; have hfz17_0 := blk_frozen BK524.out 0; have hfz17_1 := blk_frozen BK524.out 1) | (go_at_call 23; (with_reducible refine (walk_Parts.calls k a0_0 _ _ l0_1 t530 t533 _ ?side1 ?side2 A7.out).mono ?_); (case side1 => repeat (first | exact (Kd.C_below HR0_1.out HB.out) | (with_reducible refine Kd.C_alloc ?_ _) | (with_reducible refine Kd.C_drewN ?_ _) | (with_reducible refine Kd.C_drew ?_))); (case side2 => exact HC0_1.out); rintro e w18 ⟨v531, rfl, ho0, hb⟩; have n0_ := ak (Kd.R_elder' (rx HO528.out) (Kd.R_base ho0) hb); have n1_ := ak (Kd.R_lower (Kd.R_new' ho0 (Kd.R_lt (rx HO528.out))) (below_size lb)); have n2_ := ak (blk_below (bx BK524.out) hb); have n3_ := ak (below_step lb hb); clear HO528; clear BK524; clear HB; have HO528 := n0_; have HO532 := n1_; have BK524 := n2_; have HB := n3_; clear n0_ n1_ n2_ n3_; (try clear hb); (try clear hb2); (try clear hk); (try clear hi); (try clear ho0); have hcz19_0 : w18.cell? ⟨gb524, 0, none⟩ = some (.int .i64 a0_0) := (blk_cell BK524.out 0).trans rfl; have hcz19_1 : w18.cell? ⟨gb524, 1, none⟩ = some (.slice A0_1 l0_1.length c0_1) := (blk_cell BK524.out 1).trans rfl; have hfz19_0 := blk_frozen BK524.out 0; have hfz19_1 := blk_frozen BK524.out 1) | (go_at_call 26; (with_reducible refine (compassref03_Reverse.calls k a0_0 _ _ l0_1 t534 t535 _ ?side1 ?side2 A8.out).mono ?_); (case side1 => repeat (first | exact (Kd.C_below HR0_1.out HB.out) | (with_reducible refine Kd.C_alloc ?_ _) | (with_reducible refine Kd.C_drewN ?_ _) | (with_reducible refine Kd.C_drew ?_))); (case side2 => exact HC0_1.out); rintro e w20 ⟨v536, rfl, ho0, hb⟩; have n0_ := ak (Kd.R_below (rx HO528.out) hb); have n1_ := ak (Kd.R_below (rx HO532.out) hb); have n2_ := ak (Kd.R_lower ho0 (below_size lb)); have n3_ := ak (blk_below (bx BK524.out) hb); have n4_ := ak (below_step lb hb); clear HO528; clear HO532; clear BK524; clear HB; have HO528 := n0_; have HO532 := n1_; have HO537 := n2_; have BK524 := n3_; have HB := n4_; clear n0_ n1_ n2_ n3_ n4_; (try clear hb); (try clear hb2); (try clear hk); (try clear hi); (try clear ho0); obtain ⟨Ao21, co21, eo21⟩ := Kd.R_slice HO537.out; subst eo21) | (go_at_call 21; (with_reducible refine (walk_Strong.calls k t534 _ _ t535 t538 t541 _ ?side1 ?side2 A9.out).mono ?_); (case side1 => repeat (first | exact (Kd.R_reads' HO537.out).2.2 | (with_reducible refine Kd.C_alloc ?_ _) | (with_reducible refine Kd.C_drewN ?_ _) | (with_reducible refine Kd.C_drew ?_))); (case side2 => exact (Kd.R_reads' HO537.out).2.1); rintro e w22 ⟨v539, rfl, ho0, hb⟩; have n0_ := ak (Kd.R_elder' (rx HO528.out) (Kd.R_base ho0) hb); have n1_ := ak (Kd.R_elder' (rx HO532.out) (Kd.R_base ho0) hb); have n2_ := ak (Kd.R_below (rx HO537.out) hb); have n3_ := ak (Kd.R_lower (Kd.R_new' (Kd.R_new' ho0 (Kd.R_lt (rx HO528.out))) (Kd.R_lt (rx HO532.out))) (below_size lb)); have n4_ := ak (blk_below (bx BK524.out) hb); have n5_ := ak (below_step lb hb); clear HO528; clear HO532; clear HO537; clear BK524; clear HB; have HO528 := n0_; have HO532 := n1_; have HO537 := n2_; have HO540 := n3_; have BK524 := n4_; have HB := n5_; clear n0_ n1_ n2_ n3_ n4_ n5_; (try clear hb); (try clear hb2); (try clear hk); (try clear hi); (try clear ho0); have hcz23_0 : w22.cell? ⟨gb524, 0, none⟩ = some (.int .i64 a0_0) := (blk_cell BK524.out 0).trans rfl; have hcz23_1 : w22.cell? ⟨gb524, 1, none⟩ = some (.slice A0_1 l0_1.length c0_1) := (blk_cell BK524.out 1).trans rfl; have hfz23_0 := blk_frozen BK524.out 0; have hfz23_1 := blk_frozen BK524.out 1) | (go_at_call 13; (with_reducible refine (walk_Levels.calls k a0_0 _ _ l0_1 a1 t542 t545 _ ?side1 ?side2 A10.out).mono ?_); (case side1 => repeat (first | exact (Kd.C_below HR0_1.out HB.out) | (with_reducible refine Kd.C_alloc ?_ _) | (with_reducible refine Kd.C_drewN ?_ _) | (with_reducible refine Kd.C_drew ?_))); (case side2 => exact HC0_1.out); rintro e w24 ⟨v543, rfl, ho0, hb⟩; have n0_ := ak (Kd.R_elder' (rx HO528.out) (Kd.R_base ho0) hb); have n1_ := ak (Kd.R_elder' (rx HO532.out) (Kd.R_base ho0) hb); have n2_ := ak (Kd.R_below (rx HO537.out) hb); have n3_ := ak (Kd.R_elder' (rx HO540.out) (Kd.R_base ho0) hb); have n4_ := ak (Kd.R_lower (Kd.R_new' (Kd.R_new' (Kd.R_new' ho0 (Kd.R_lt (rx HO528.out))) (Kd.R_lt (rx HO532.out))) (Kd.R_lt (rx HO540.out))) (below_size lb)); have n5_ := ak (blk_below (bx BK524.out) hb); have n6_ := ak (below_step lb hb); clear HO528; clear HO532; clear HO537; clear HO540; clear BK524; clear HB; have HO528 := n0_; have HO532 := n1_; have HO537 := n2_; have HO540 := n3_; have HO544 := n4_; have BK524 := n5_; have HB := n6_; clear n0_ n1_ n2_ n3_ n4_ n5_ n6_; (try clear hb); (try clear hb2); (try clear hk); (try clear hi); (try clear ho0); have hcz25_0 : w24.cell? ⟨gb524, 0, none⟩ = some (.int .i64 a0_0) := (blk_cell BK524.out 0).trans rfl; have hcz25_1 : w24.cell? ⟨gb524, 1, none⟩ = some (.slice A0_1 l0_1.length c0_1) := (blk_cell BK524.out 1).trans rfl; have hfz25_0 := blk_frozen BK524.out 0; have hfz25_1 := blk_frozen BK524.out 1) | (go_at_call 13; (with_reducible refine (walk_Levels.calls k a0_0 _ _ l0_1 a2 t546 t549 _ ?side1 ?side2 A11.out).mono ?_); (case side1 => repeat (first | exact (Kd.C_below HR0_1.out HB.out) | (with_reducible refine Kd.C_alloc ?_ _) | (with_reducible refine Kd.C_drewN ?_ _) | (with_reducible refine Kd.C_drew ?_))); (case side2 => exact HC0_1.out); rintro e w26 ⟨v547, rfl, ho0, hb⟩; have n0_ := ak (Kd.R_elder' (rx HO528.out) (Kd.R_base ho0) hb); have n1_ := ak (Kd.R_elder' (rx HO532.out) (Kd.R_base ho0) hb); have n2_ := ak (Kd.R_below (rx HO537.out) hb); have n3_ := ak (Kd.R_elder' (rx HO540.out) (Kd.R_base ho0) hb); have n4_ := ak (Kd.R_elder' (rx HO544.out) (Kd.R_base ho0) hb); have n5_ := ak (Kd.R_lower (Kd.R_new' (Kd.R_new' (Kd.R_new' (Kd.R_new' ho0 (Kd.R_lt (rx HO528.out))) (Kd.R_lt (rx HO532.out))) (Kd.R_lt (rx HO540.out))) (Kd.R_lt (rx HO544.out))) (below_size lb)); have n6_ := ak (blk_below (bx BK524.out) hb); have n7_ := ak (below_step lb hb); clear HO528; clear HO532; clear HO537; clear HO540; clear HO544; clear BK524; clear HB; have HO528 := n0_; have HO532 := n1_; have HO537 := n2_; have HO540 := n3_; have HO544 := n4_; have HO548 := n5_; have BK524 := n6_; have HB := n7_; clear n0_ n1_ n2_ n3_ n4_ n5_ n6_ n7_; (try clear hb); (try clear hb2); (try clear hk); (try clear hi); (try clear ho0))))
  (try simp only [Act.put, List.setIfInBounds_toArray, List.set_cons_zero, List.set_cons_succ])
  go_cut [61] (fun v61 wc => ∃ (kq : Nat) (x61_11 : Bool), v61 = .bool x61_11 ∧ Aside0 (compasslaw04_WalkMutual.j0 kq a1 a2 t526 t529 t530 t542 t545 t546 t549 x61_11 a0_0 l0_1 = some r) ∧ Aside0 (kq ≤ k) ∧ Aside0 (Kd.R (Kd.int .i64) 3 wc w.heap.size (fun k_ => some k_ ≠ (v531 : Value).ownBlock ∧ some k_ ≠ (v543 : Value).ownBlock ∧ some k_ ≠ (v547 : Value).ownBlock) v527 t526) ∧ Aside0 (Kd.R (Kd.int .i64) 3 wc w.heap.size (fun k_ => some k_ ≠ (v527 : Value).ownBlock ∧ some k_ ≠ (v543 : Value).ownBlock ∧ some k_ ≠ (v547 : Value).ownBlock) v531 t530) ∧ Aside0 (Kd.R (Kd.int .i64) 3 wc w.heap.size (fun k_ => some k_ ≠ (v527 : Value).ownBlock ∧ some k_ ≠ (v531 : Value).ownBlock ∧ some k_ ≠ (v547 : Value).ownBlock) v543 t542) ∧ Aside0 (Kd.R (Kd.int .i64) 3 wc w.heap.size (fun k_ => some k_ ≠ (v527 : Value).ownBlock ∧ some k_ ≠ (v531 : Value).ownBlock ∧ some k_ ≠ (v543 : Value).ownBlock) v547 t546) ∧ Aside0 (wc.heap[gb524]? = some (.cells #[.int .i64 a0_0, (.slice A0_1 l0_1.length c0_1)] 24 (0, 0))) ∧ Aside0 (Below w.heap.size w wc))
  case first =>
   have H := HC12.out
   clear HC12
   by_cases c27 : t529 = t533
   ·
    rw [if_pos c27] at H
    have c27b0 : (t529 == t533) = true := beq_iff_eq.mpr c27
    have c27b1 : (t529 != t533) = false := bne_eq_false_iff_eq.mpr c27
    clear c27
    (first | rw [c27b0] | (simp only [i64_w, i32_w]; rw [c27b0]) | skip)
    by_cases c28 : t529 = t541
    ·
     rw [if_pos c28] at H
     have c28b0 : (t529 == t541) = true := beq_iff_eq.mpr c28
     have c28b1 : (t529 != t541) = false := bne_eq_false_iff_eq.mpr c28
     clear c28
     replace H := Option.bind_eq_some_iff.mp H
     obtain ⟨t550, A290, H⟩ := H
     replace H : (compasslaw04_WalkMutual.j0 k a1 a2 t526 t529 t530 t542 t545 t546 t549 (!t550) a0_0 l0_1) = some r := H
     have A29 := ak A290
     clear A290
     have H' := ak H
     clear H
     obtain ⟨Ao30, co30, eo30⟩ := Kd.R_slice HO528.out
     subst eo30
     obtain ⟨Ao31, co31, eo31⟩ := Kd.R_slice HO540.out
     subst eo31
     go_wp2_with (first | (go_at_call 15; (with_reducible refine (compasslaw04_ints.calls k _ _ t526 _ _ t538 t550 _ ?side1 ?side2 ?side3 ?side4 A29.out).mono ?_); (case side1 => repeat (first | exact (Kd.R_reads' HO528.out).2.2 | (with_reducible refine Kd.C_alloc ?_ _) | (with_reducible refine Kd.C_drewN ?_ _) | (with_reducible refine Kd.C_drew ?_))); (case side2 => exact (Kd.R_reads' HO528.out).2.1); (case side3 => repeat (first | exact (Kd.R_reads' HO540.out).2.2 | (with_reducible refine Kd.C_alloc ?_ _) | (with_reducible refine Kd.C_drewN ?_ _) | (with_reducible refine Kd.C_drew ?_))); (case side4 => exact (Kd.R_reads' HO540.out).2.1); rintro e w' ⟨rfl, ⟨nd, rfl⟩⟩; (try first | exact ⟨rfl, _, World.drewN_drewN _ _ _⟩ | exact ⟨rfl, _, Eq.trans (World.drewN_drewN _ _ _) (congrArg (World.drewN _) (Nat.add_assoc _ _ _))⟩)))
     repeat (go_quiet (first | (go_at_call 15; (with_reducible refine (compasslaw04_ints.calls k _ _ t526 _ _ t538 t550 _ ?side1 ?side2 ?side3 ?side4 A29.out).mono ?_); (case side1 => repeat (first | exact (Kd.R_reads' HO528.out).2.2 | (with_reducible refine Kd.C_alloc ?_ _) | (with_reducible refine Kd.C_drewN ?_ _) | (with_reducible refine Kd.C_drew ?_))); (case side2 => exact (Kd.R_reads' HO528.out).2.1); (case side3 => repeat (first | exact (Kd.R_reads' HO540.out).2.2 | (with_reducible refine Kd.C_alloc ?_ _) | (with_reducible refine Kd.C_drewN ?_ _) | (with_reducible refine Kd.C_drew ?_))); (case side4 => exact (Kd.R_reads' HO540.out).2.1); rintro e w' ⟨rfl, ⟨nd, rfl⟩⟩; (try first | exact ⟨rfl, _, World.drewN_drewN _ _ _⟩ | exact ⟨rfl, _, Eq.trans (World.drewN_drewN _ _ _) (congrArg (World.drewN _) (Nat.add_assoc _ _ _))⟩))); try go_wp2_with (first | (go_at_call 15; (with_reducible refine (compasslaw04_ints.calls k _ _ t526 _ _ t538 t550 _ ?side1 ?side2 ?side3 ?side4 A29.out).mono ?_); (case side1 => repeat (first | exact (Kd.R_reads' HO528.out).2.2 | (with_reducible refine Kd.C_alloc ?_ _) | (with_reducible refine Kd.C_drewN ?_ _) | (with_reducible refine Kd.C_drew ?_))); (case side2 => exact (Kd.R_reads' HO528.out).2.1); (case side3 => repeat (first | exact (Kd.R_reads' HO540.out).2.2 | (with_reducible refine Kd.C_alloc ?_ _) | (with_reducible refine Kd.C_drewN ?_ _) | (with_reducible refine Kd.C_drew ?_))); (case side4 => exact (Kd.R_reads' HO540.out).2.1); rintro e w' ⟨rfl, ⟨nd, rfl⟩⟩; (try first | exact ⟨rfl, _, World.drewN_drewN _ _ _⟩ | exact ⟨rfl, _, Eq.trans (World.drewN_drewN _ _ _) (congrArg (World.drewN _) (Nat.add_assoc _ _ _))⟩))))
     go_meet
     case rel => exact ⟨_, (!t550), (by first | rfl | (simp [*]; done)), H', ⟨by first | omega | exact Nat.le_refl _⟩, ⟨by exact rx (Kd.R_mono HO528.out (fun _ hk => ⟨hk.1.1.1.2, ⟨hk.1.2, hk.2⟩⟩))⟩, ⟨by exact rx (Kd.R_mono HO532.out (fun _ hk => ⟨hk.1.1.1.2, ⟨hk.1.2, hk.2⟩⟩))⟩, ⟨by exact rx (Kd.R_mono HO544.out (fun _ hk => ⟨hk.1.1.1.2, ⟨hk.1.1.2, hk.2⟩⟩))⟩, ⟨by exact rx (Kd.R_mono HO548.out (fun _ hk => ⟨hk.1.1.1.2, ⟨hk.1.1.2, hk.2⟩⟩))⟩, ⟨bx BK524.out⟩, ⟨lb⟩⟩
    ·
     rw [if_neg c28] at H
     have c28b0 : (t529 == t541) = false := beq_eq_false_iff_ne.mpr c28
     have c28b1 : (t529 != t541) = true := bne_iff_ne.mpr c28
     have H' := ak H
     clear H
     go_wp2
     repeat (go_quiet (fail); try go_wp2)
     go_meet
     case rel => exact ⟨_, (true), (by first | rfl | (simp [*]; done)), H', ⟨by first | omega | exact Nat.le_refl _⟩, ⟨by exact rx (Kd.R_mono HO528.out (fun _ hk => ⟨hk.1.1.1.2, ⟨hk.1.2, hk.2⟩⟩))⟩, ⟨by exact rx (Kd.R_mono HO532.out (fun _ hk => ⟨hk.1.1.1.2, ⟨hk.1.2, hk.2⟩⟩))⟩, ⟨by exact rx (Kd.R_mono HO544.out (fun _ hk => ⟨hk.1.1.1.2, ⟨hk.1.1.2, hk.2⟩⟩))⟩, ⟨by exact rx (Kd.R_mono HO548.out (fun _ hk => ⟨hk.1.1.1.2, ⟨hk.1.1.2, hk.2⟩⟩))⟩, ⟨bx BK524.out⟩, ⟨lb⟩⟩
   ·
    rw [if_neg c27] at H
    have c27b0 : (t529 == t533) = false := beq_eq_false_iff_ne.mpr c27
    have c27b1 : (t529 != t533) = true := bne_iff_ne.mpr c27
    (first | rw [c27b0] | (simp only [i64_w, i32_w]; rw [c27b0]) | skip)
    have H' := ak H
    clear H
    go_wp2
    repeat (go_quiet (fail); try go_wp2)
    go_meet
    case rel => exact ⟨_, (true), (by first | rfl | (simp [*]; done)), H', ⟨by first | omega | exact Nat.le_refl _⟩, ⟨by exact rx (Kd.R_mono HO528.out (fun _ hk => ⟨hk.1.1.1.2, ⟨hk.1.2, hk.2⟩⟩))⟩, ⟨by exact rx (Kd.R_mono HO532.out (fun _ hk => ⟨hk.1.1.1.2, ⟨hk.1.2, hk.2⟩⟩))⟩, ⟨by exact rx (Kd.R_mono HO544.out (fun _ hk => ⟨hk.1.1.1.2, ⟨hk.1.1.2, hk.2⟩⟩))⟩, ⟨by exact rx (Kd.R_mono HO548.out (fun _ hk => ⟨hk.1.1.1.2, ⟨hk.1.1.2, hk.2⟩⟩))⟩, ⟨bx BK524.out⟩, ⟨lb⟩⟩
  case rest =>
   clear HC12
   try clear c1; try clear c2; try clear p2; try clear c5; try clear c10; try clear c27; try clear c27b0; try clear c27b1; try clear c28; try clear c28b0; try clear c28b1; try clear hcz15_0; try clear hcz15_1; try clear hcz17_0; try clear hcz17_1; try clear hcz19_0; try clear hcz19_1; try clear hcz23_0; try clear hcz23_1; try clear hcz25_0; try clear hcz25_1; try clear hfz15_0; try clear hfz15_1; try clear hfz17_0; try clear hfz17_1; try clear hfz19_0; try clear hfz19_1; try clear hfz23_0; try clear hfz23_1; try clear hfz25_0; try clear hfz25_1
   obtain ⟨kq, x61_11, rfl, HA, HJ11, HO_7, HO_9, HO_13, HO_15, BK524, HB⟩ := hcut
   cases kq with
   | zero => exact absurd HA.out (by simp [compasslaw04_WalkMutual.j0])
   | succ kj11 =>
    have H := HA.out
    clear HA
    simp only [compasslaw04_WalkMutual.j0] at H
    by_cases c32 : x61_11 = true
    ·
     subst c32
     have H1 : (some false) = some r := by rw [if_pos rfl] at H; exact H
     clear H
     have H := H1
     clear H1
     exact absurd ((Option.some.inj H).trans HR_.out) (by decide)
    ·
     replace c32 := Bool.eq_false_iff.mpr c32
     subst c32
     have H1 : (if t545 = 0 then (compasslaw04_WalkMutual.j1 kj11 a1 a2 t526 t529 t530 t542 t546 (t549 != 0) a0_0 l0_1) else (compasslaw04_WalkMutual.j1 kj11 a1 a2 t526 t529 t530 t542 t546 true a0_0 l0_1)) = some r := by rw [if_neg (show ¬ (false = true) by decide)] at H; exact H
     clear H
     have H := H1
     clear H1
     have HC33 := ak H
     clear H
     go_upto_region 10 with (fail)
     repeat (go_quiet (fail); go_upto_region 10 with (fail))
     go_cut [67] (fun v67 wc => ∃ (kq : Nat) (x67_32 : Bool), v67 = .bool x67_32 ∧ Aside0 (compasslaw04_WalkMutual.j1 kq a1 a2 t526 t529 t530 t542 t546 x67_32 a0_0 l0_1 = some r) ∧ Aside0 (kq ≤ kj11) ∧ Aside0 (Kd.R (Kd.int .i64) 3 wc w.heap.size (fun k_ => some k_ ≠ (v531 : Value).ownBlock ∧ some k_ ≠ (v543 : Value).ownBlock ∧ some k_ ≠ (v547 : Value).ownBlock) v527 t526) ∧ Aside0 (Kd.R (Kd.int .i64) 3 wc w.heap.size (fun k_ => some k_ ≠ (v527 : Value).ownBlock ∧ some k_ ≠ (v543 : Value).ownBlock ∧ some k_ ≠ (v547 : Value).ownBlock) v531 t530) ∧ Aside0 (Kd.R (Kd.int .i64) 3 wc w.heap.size (fun k_ => some k_ ≠ (v527 : Value).ownBlock ∧ some k_ ≠ (v531 : Value).ownBlock ∧ some k_ ≠ (v547 : Value).ownBlock) v543 t542) ∧ Aside0 (Kd.R (Kd.int .i64) 3 wc w.heap.size (fun k_ => some k_ ≠ (v527 : Value).ownBlock ∧ some k_ ≠ (v531 : Value).ownBlock ∧ some k_ ≠ (v543 : Value).ownBlock) v547 t546) ∧ Aside0 (wc.heap[gb524]? = some (.cells #[.int .i64 a0_0, (.slice A0_1 l0_1.length c0_1)] 24 (0, 0))) ∧ Aside0 (Below w.heap.size w wc))
     case first =>
      have H := HC33.out
      clear HC33
      by_cases c34 : t545 = 0
      ·
       rw [if_pos c34] at H
       have c34b0 : (t545 == 0) = true := beq_iff_eq.mpr c34
       have c34b1 : (t545 != 0) = false := bne_eq_false_iff_eq.mpr c34
       clear c34
       (first | rw [c34b0] | (simp only [i64_w, i32_w]; rw [c34b0]) | skip)
       have H' := ak H
       clear H
       go_wp2
       repeat (go_quiet (fail); try go_wp2)
       go_meet
       case rel => exact ⟨_, ((t549 != 0)), (by first | rfl | (simp [*]; done)), H', ⟨by have := HJ11.out; first | omega | exact Nat.le_refl _⟩, ⟨rx HO_7.out⟩, ⟨rx HO_9.out⟩, ⟨rx HO_13.out⟩, ⟨rx HO_15.out⟩, ⟨bx BK524.out⟩, ⟨lb⟩⟩
      ·
       rw [if_neg c34] at H
       have c34b0 : (t545 == 0) = false := beq_eq_false_iff_ne.mpr c34
       have c34b1 : (t545 != 0) = true := bne_iff_ne.mpr c34
       (first | rw [c34b0] | (simp only [i64_w, i32_w]; rw [c34b0]) | skip)
       have H' := ak H
       clear H
       go_wp2
       repeat (go_quiet (fail); try go_wp2)
       go_meet
       case rel => exact ⟨_, (true), (by first | rfl | (simp [*]; done)), H', ⟨by have := HJ11.out; first | omega | exact Nat.le_refl _⟩, ⟨rx HO_7.out⟩, ⟨rx HO_9.out⟩, ⟨rx HO_13.out⟩, ⟨rx HO_15.out⟩, ⟨bx BK524.out⟩, ⟨lb⟩⟩
     case rest =>
      clear HC33
      try clear c1; try clear c2; try clear p2; try clear c3; try clear c5; try clear c10; try clear c27; try clear c27b0; try clear c27b1; try clear c28; try clear c28b0; try clear c28b1; try clear c32; try clear c34; try clear c34b0; try clear c34b1; try clear hcz15_0; try clear hcz15_1; try clear hcz17_0; try clear hcz17_1; try clear hcz19_0; try clear hcz19_1; try clear hcz23_0; try clear hcz23_1; try clear hcz25_0; try clear hcz25_1; try clear hfz15_0; try clear hfz15_1; try clear hfz17_0; try clear hfz17_1; try clear hfz19_0; try clear hfz19_1; try clear hfz23_0; try clear hfz23_1; try clear hfz25_0; try clear hfz25_1; try clear p2
      obtain ⟨kq, x67_32, rfl, HA, HJ32, HO_7, HO_9, HO_13, HO_15, BK524, HB⟩ := hcut
      cases kq with
      | zero => exact absurd HA.out (by simp [compasslaw04_WalkMutual.j1])
      | succ kj32 =>
       have H := HA.out
       clear HA
       simp only [compasslaw04_WalkMutual.j1] at H
       by_cases c35 : x67_32 = true
       ·
        subst c35
        have H1 : (if t529 = 0 then (some true) else (if (t526.length : Int) = 0 then (some ((t530.length : Int) == 0)) else (some false))) = some r := by rw [if_pos rfl] at H; exact H
        clear H
        have H := H1
        clear H1
        by_cases c36 : t529 = 0
        ·
         rw [if_pos c36] at H
         have c36b0 : (t529 == 0) = true := beq_iff_eq.mpr c36
         have c36b1 : (t529 != 0) = false := bne_eq_false_iff_eq.mpr c36
         clear c36
         obtain rfl := Option.some.inj H
         go_wp2
         repeat (go_quiet (fail); try go_wp2)
         go_ret
         exact ⟨by first | rfl | (simp [errW_none, errW_some] <;> rfl) | (simp [*, errW_none, errW_some] <;> rfl), lb⟩
        ·
         rw [if_neg c36] at H
         have c36b0 : (t529 == 0) = false := beq_eq_false_iff_ne.mpr c36
         have c36b1 : (t529 != 0) = true := bne_iff_ne.mpr c36
         by_cases c37 : (t526.length : Int) = 0
         ·
          rw [if_pos c37] at H
          have c37b0 : ((t526.length : Int) == 0) = true := beq_iff_eq.mpr c37
          have c37b1 : ((t526.length : Int) != 0) = false := bne_eq_false_iff_eq.mpr c37
          clear c37
          obtain rfl := Option.some.inj H
          obtain ⟨Ao38, co38, eo38⟩ := Kd.R_slice HO_7.out
          subst eo38
          obtain ⟨Ao39, co39, eo39⟩ := Kd.R_slice HO_9.out
          subst eo39
          go_wp2
          repeat (go_quiet (fail); try go_wp2)
          go_ret
          exact ⟨by first | rfl | (simp [errW_none, errW_some] <;> rfl) | (simp [*, errW_none, errW_some] <;> rfl), lb⟩
         ·
          rw [if_neg c37] at H
          have c37b0 : ((t526.length : Int) == 0) = false := beq_eq_false_iff_ne.mpr c37
          have c37b1 : ((t526.length : Int) != 0) = true := bne_iff_ne.mpr c37
          have c37b2 : ¬ (t526 = []) := fun h_ => c37 (by rw [h_]; rfl)
          exact absurd ((Option.some.inj H).trans HR_.out) (by decide)
       ·
        replace c35 := Bool.eq_false_iff.mpr c35
        subst c35
        have H1 : (if (t526.length : Int) = a0_0 then (if (t530.length : Int) = a0_0 then (if (t542.length : Int) = a0_0 then (if (t546.length : Int) = a0_0 then (if 0 ≤ a2 then (if a2 < (t542.length : Int) then (if (rd t542 a2) ≥ 0 then (if 0 ≤ a1 then (if a1 < (t546.length : Int) then (if a1 < (t526.length : Int) then (if a2 < (t526.length : Int) then (if (((rd t526 a1) == (rd t526 a2)) == (decide ((rd t546 a1) ≥ 0))) = true then (if ((rd t546 a1) ≥ 0) then (if a1 < (t530.length : Int) then (if a2 < (t530.length : Int) then (if (rd t530 a1) = (rd t530 a2) then (if (rd t542 a2) < 0 then (some true) else (some ((rd t530 a1) == (rd t530 a2)))) else (some false)) else (none)) else (none)) else (if (rd t542 a2) < 0 then (some true) else (if a1 < (t530.length : Int) then (if a2 < (t530.length : Int) then (some ((rd t530 a1) == (rd t530 a2))) else (none)) else (none)))) else (some false)) else (none)) else (none)) else (none)) else (none)) else (if 0 ≤ a1 then (if a1 < (t526.length : Int) then (if a2 < (t526.length : Int) then (if (((rd t526 a1) == (rd t526 a2)) == false) = true then (if (rd t542 a2) < 0 then (some true) else (if a1 < (t530.length : Int) then (if a2 < (t530.length : Int) then (some ((rd t530 a1) == (rd t530 a2))) else (none)) else (none))) else (some false)) else (none)) else (none)) else (none))) else (none)) else (none)) else (some false)) else (some false)) else (some false)) else (some false)) = some r := by rw [if_neg (show ¬ (false = true) by decide)] at H; exact H
        clear H
        have H := H1
        clear H1
        by_cases c40 : (t526.length : Int) = a0_0
        rotate_left
        ·
         rw [if_neg c40] at H
         have c40b0 : ((t526.length : Int) == a0_0) = false := beq_eq_false_iff_ne.mpr c40
         have c40b1 : ((t526.length : Int) != a0_0) = true := bne_iff_ne.mpr c40
         exact absurd ((Option.some.inj H).trans HR_.out) (by decide)
        rw [if_pos c40] at H
        have c40b0 : ((t526.length : Int) == a0_0) = true := beq_iff_eq.mpr c40
        have c40b1 : ((t526.length : Int) != a0_0) = false := bne_eq_false_iff_eq.mpr c40
        clear c40
        by_cases c41 : (t530.length : Int) = a0_0
        rotate_left
        ·
         rw [if_neg c41] at H
         have c41b0 : ((t530.length : Int) == a0_0) = false := beq_eq_false_iff_ne.mpr c41
         have c41b1 : ((t530.length : Int) != a0_0) = true := bne_iff_ne.mpr c41
         exact absurd ((Option.some.inj H).trans HR_.out) (by decide)
        rw [if_pos c41] at H
        have c41b0 : ((t530.length : Int) == a0_0) = true := beq_iff_eq.mpr c41
        have c41b1 : ((t530.length : Int) != a0_0) = false := bne_eq_false_iff_eq.mpr c41
        clear c41
        by_cases c42 : (t542.length : Int) = a0_0
        rotate_left
        ·
         rw [if_neg c42] at H
         have c42b0 : ((t542.length : Int) == a0_0) = false := beq_eq_false_iff_ne.mpr c42
         have c42b1 : ((t542.length : Int) != a0_0) = true := bne_iff_ne.mpr c42
         exact absurd ((Option.some.inj H).trans HR_.out) (by decide)
        rw [if_pos c42] at H
        have c42b0 : ((t542.length : Int) == a0_0) = true := beq_iff_eq.mpr c42
        have c42b1 : ((t542.length : Int) != a0_0) = false := bne_eq_false_iff_eq.mpr c42
        clear c42
        by_cases c43 : (t546.length : Int) = a0_0
        rotate_left
        ·
         rw [if_neg c43] at H
         have c43b0 : ((t546.length : Int) == a0_0) = false := beq_eq_false_iff_ne.mpr c43
         have c43b1 : ((t546.length : Int) != a0_0) = true := bne_iff_ne.mpr c43
         exact absurd ((Option.some.inj H).trans HR_.out) (by decide)
        rw [if_pos c43] at H
        have c43b0 : ((t546.length : Int) == a0_0) = true := beq_iff_eq.mpr c43
        have c43b1 : ((t546.length : Int) != a0_0) = false := bne_eq_false_iff_eq.mpr c43
        clear c43
        by_cases c44 : 0 ≤ a2
        rotate_left
        ·
         rw [if_neg c44] at H
         exact absurd H (by simp)
        rw [if_pos c44] at H
        have c44b0 : decide (0 ≤ a2) = true := decide_eq_true c44
        clear c44
        by_cases c45 : a2 < (t542.length : Int)
        rotate_left
        ·
         rw [if_neg c45] at H
         exact absurd H (by simp)
        rw [if_pos c45] at H
        have c45b0 : decide (a2 < (t542.length : Int)) = true := decide_eq_true c45
        clear c45
        by_cases c46 : (rd t542 a2) ≥ 0
        ·
         rw [if_pos c46] at H
         have c46b0 : decide (0 ≤ (rd t542 a2)) = true := decide_eq_true c46
         clear c46
         by_cases c47 : 0 ≤ a1
         rotate_left
         ·
          rw [if_neg c47] at H
          exact absurd H (by simp)
         rw [if_pos c47] at H
         have c47b0 : decide (0 ≤ a1) = true := decide_eq_true c47
         clear c47
         by_cases c48 : a1 < (t546.length : Int)
         rotate_left
         ·
          rw [if_neg c48] at H
          exact absurd H (by simp)
         rw [if_pos c48] at H
         have c48b0 : decide (a1 < (t546.length : Int)) = true := decide_eq_true c48
         clear c48
         by_cases c49 : a1 < (t526.length : Int)
         rotate_left
         ·
          rw [if_neg c49] at H
          exact absurd H (by simp)
         rw [if_pos c49] at H
         have c49b0 : decide (a1 < (t526.length : Int)) = true := decide_eq_true c49
         clear c49
         by_cases c50 : a2 < (t526.length : Int)
         rotate_left
         ·
          rw [if_neg c50] at H
          exact absurd H (by simp)
         rw [if_pos c50] at H
         have c50b0 : decide (a2 < (t526.length : Int)) = true := decide_eq_true c50
         clear c50
         by_cases c51 : (((rd t526 a1) == (rd t526 a2)) == (decide ((rd t546 a1) ≥ 0))) = true
         ·
          rw [if_pos c51] at H
          have c51b0 : (((rd t526 a1) == (rd t526 a2)) == (decide ((rd t546 a1) ≥ 0))) = true := c51
          (try (have c51b1 : decide (((rd t526 a1) == (rd t526 a2)) = (decide ((rd t546 a1) ≥ 0))) = true := by simpa using c51))
          (try (have c51b2 : (((rd t526 a1) == (rd t526 a2)) == (decide ((rd t546 a1) ≥ 0))) = true := by simpa using c51))
          clear c51
          by_cases c52 : ((rd t546 a1) ≥ 0)
          ·
           rw [if_pos c52] at H
           have c52b0 : decide (0 ≤ (rd t546 a1)) = true := decide_eq_true c52
           clear c52
           by_cases c53 : a1 < (t530.length : Int)
           rotate_left
           ·
            rw [if_neg c53] at H
            exact absurd H (by simp)
           rw [if_pos c53] at H
           have c53b0 : decide (a1 < (t530.length : Int)) = true := decide_eq_true c53
           clear c53
           by_cases c54 : a2 < (t530.length : Int)
           rotate_left
           ·
            rw [if_neg c54] at H
            exact absurd H (by simp)
           rw [if_pos c54] at H
           have c54b0 : decide (a2 < (t530.length : Int)) = true := decide_eq_true c54
           clear c54
           by_cases c55 : (rd t530 a1) = (rd t530 a2)
           rotate_left
           ·
            rw [if_neg c55] at H
            have c55b0 : ((rd t530 a1) == (rd t530 a2)) = false := beq_eq_false_iff_ne.mpr c55
            have c55b1 : ((rd t530 a1) != (rd t530 a2)) = true := bne_iff_ne.mpr c55
            exact absurd ((Option.some.inj H).trans HR_.out) (by decide)
           rw [if_pos c55] at H
           have c55b0 : ((rd t530 a1) == (rd t530 a2)) = true := beq_iff_eq.mpr c55
           have c55b1 : ((rd t530 a1) != (rd t530 a2)) = false := bne_eq_false_iff_eq.mpr c55
           clear c55
           by_cases c56 : (rd t542 a2) < 0
           ·
            rw [if_pos c56] at H
            have c56b0 : decide ((rd t542 a2) < 0) = true := decide_eq_true c56
            clear c56
            obtain rfl := Option.some.inj H
            obtain ⟨Ao57, co57, eo57⟩ := Kd.R_slice HO_7.out
            subst eo57
            have hcz58_0 : wc.cell? ⟨gb524, 0, none⟩ = some (.int .i64 a0_0) := (blk_cell BK524.out 0).trans rfl
            have hcz58_1 : wc.cell? ⟨gb524, 1, none⟩ = some (.slice A0_1 l0_1.length c0_1) := (blk_cell BK524.out 1).trans rfl
            have hfz58_0 := blk_frozen BK524.out 0
            have hfz58_1 := blk_frozen BK524.out 1
            obtain ⟨Ao59, co59, eo59⟩ := Kd.R_slice HO_9.out
            subst eo59
            obtain ⟨Ao60, co60, eo60⟩ := Kd.R_slice HO_13.out
            subst eo60
            obtain ⟨Ao61, co61, eo61⟩ := Kd.R_slice HO_15.out
            subst eo61
            have p551 : 0 ≤ (a2 : Int) := oda
            have q551 : a2 < (t542.length : Int) := oda
            obtain ⟨ad551, e551, hx551_0⟩ := Kd.at_int (Kd.R_reads' HO_13.out).2.2 a2 p551 q551
            cases e551
            replace p551 := eq_true p551
            replace q551 := eq_true q551
            have p552 : 0 ≤ (a1 : Int) := oda
            have q552 : a1 < (t546.length : Int) := oda
            obtain ⟨ad552, e552, hx552_0⟩ := Kd.at_int (Kd.R_reads' HO_15.out).2.2 a1 p552 q552
            cases e552
            replace p552 := eq_true p552
            replace q552 := eq_true q552
            have p553 : 0 ≤ (a1 : Int) := oda
            have q553 : a1 < (t526.length : Int) := oda
            obtain ⟨ad553, e553, hx553_0⟩ := Kd.at_int (Kd.R_reads' HO_7.out).2.2 a1 p553 q553
            cases e553
            replace p553 := eq_true p553
            replace q553 := eq_true q553
            have p554 : 0 ≤ (a2 : Int) := oda
            have q554 : a2 < (t526.length : Int) := oda
            obtain ⟨ad554, e554, hx554_0⟩ := Kd.at_int (Kd.R_reads' HO_7.out).2.2 a2 p554 q554
            obtain rfl : ad553 = ad554 := (by injection e554)
            replace p554 := eq_true p554
            replace q554 := eq_true q554
            have p555 : 0 ≤ (a1 : Int) := oda
            have q555 : a1 < (t530.length : Int) := oda
            obtain ⟨ad555, e555, hx555_0⟩ := Kd.at_int (Kd.R_reads' HO_9.out).2.2 a1 p555 q555
            cases e555
            replace p555 := eq_true p555
            replace q555 := eq_true q555
            have p556 : 0 ≤ (a2 : Int) := oda
            have q556 : a2 < (t530.length : Int) := oda
            obtain ⟨ad556, e556, hx556_0⟩ := Kd.at_int (Kd.R_reads' HO_9.out).2.2 a2 p556 q556
            obtain rfl : ad555 = ad556 := (by injection e556)
            replace p556 := eq_true p556
            replace q556 := eq_true q556
            have p557 : 0 ≤ (a2 : Int) := oda
            have q557 : a2 < (t542.length : Int) := oda
            obtain ⟨ad557, e557, hx557_0⟩ := Kd.at_int (Kd.R_reads' HO_13.out).2.2 a2 p557 q557
            obtain rfl : ad551 = ad557 := (by injection e557)
            replace p557 := eq_true p557
            replace q557 := eq_true q557
            exfalso; simp only [decide_eq_true_eq, decide_eq_false_iff_not] at *; omega
           ·
            rw [if_neg c56] at H
            have c56b0 : decide ((rd t542 a2) < 0) = false := decide_eq_false c56
            clear c56
            obtain rfl := Option.some.inj H
            obtain ⟨Ao62, co62, eo62⟩ := Kd.R_slice HO_7.out
            subst eo62
            have hcz63_0 : wc.cell? ⟨gb524, 0, none⟩ = some (.int .i64 a0_0) := (blk_cell BK524.out 0).trans rfl
            have hcz63_1 : wc.cell? ⟨gb524, 1, none⟩ = some (.slice A0_1 l0_1.length c0_1) := (blk_cell BK524.out 1).trans rfl
            have hfz63_0 := blk_frozen BK524.out 0
            have hfz63_1 := blk_frozen BK524.out 1
            obtain ⟨Ao64, co64, eo64⟩ := Kd.R_slice HO_9.out
            subst eo64
            obtain ⟨Ao65, co65, eo65⟩ := Kd.R_slice HO_13.out
            subst eo65
            obtain ⟨Ao66, co66, eo66⟩ := Kd.R_slice HO_15.out
            subst eo66
            have p551 : 0 ≤ (a2 : Int) := oda
            have q551 : a2 < (t542.length : Int) := oda
            obtain ⟨ad551, e551, hx551_0⟩ := Kd.at_int (Kd.R_reads' HO_13.out).2.2 a2 p551 q551
            cases e551
            replace p551 := eq_true p551
            replace q551 := eq_true q551
            have p552 : 0 ≤ (a1 : Int) := oda
            have q552 : a1 < (t546.length : Int) := oda
            obtain ⟨ad552, e552, hx552_0⟩ := Kd.at_int (Kd.R_reads' HO_15.out).2.2 a1 p552 q552
            cases e552
            replace p552 := eq_true p552
            replace q552 := eq_true q552
            have p553 : 0 ≤ (a1 : Int) := oda
            have q553 : a1 < (t526.length : Int) := oda
            obtain ⟨ad553, e553, hx553_0⟩ := Kd.at_int (Kd.R_reads' HO_7.out).2.2 a1 p553 q553
            cases e553
            replace p553 := eq_true p553
            replace q553 := eq_true q553
            have p554 : 0 ≤ (a2 : Int) := oda
            have q554 : a2 < (t526.length : Int) := oda
            obtain ⟨ad554, e554, hx554_0⟩ := Kd.at_int (Kd.R_reads' HO_7.out).2.2 a2 p554 q554
            obtain rfl : ad553 = ad554 := (by injection e554)
            replace p554 := eq_true p554
            replace q554 := eq_true q554
            have p555 : 0 ≤ (a1 : Int) := oda
            have q555 : a1 < (t530.length : Int) := oda
            obtain ⟨ad555, e555, hx555_0⟩ := Kd.at_int (Kd.R_reads' HO_9.out).2.2 a1 p555 q555
            cases e555
            replace p555 := eq_true p555
            replace q555 := eq_true q555
            have p556 : 0 ≤ (a2 : Int) := oda
            have q556 : a2 < (t530.length : Int) := oda
            obtain ⟨ad556, e556, hx556_0⟩ := Kd.at_int (Kd.R_reads' HO_9.out).2.2 a2 p556 q556
            obtain rfl : ad555 = ad556 := (by injection e556)
            replace p556 := eq_true p556
            replace q556 := eq_true q556
            have p557 : 0 ≤ (a2 : Int) := oda
            have q557 : a2 < (t542.length : Int) := oda
            obtain ⟨ad557, e557, hx557_0⟩ := Kd.at_int (Kd.R_reads' HO_13.out).2.2 a2 p557 q557
            obtain rfl : ad551 = ad557 := (by injection e557)
            replace p557 := eq_true p557
            replace q557 := eq_true q557
            have p558 : 0 ≤ (a1 : Int) := oda
            have q558 : a1 < (t530.length : Int) := oda
            obtain ⟨ad558, e558, hx558_0⟩ := Kd.at_int (Kd.R_reads' HO_9.out).2.2 a1 p558 q558
            obtain rfl : ad555 = ad558 := (by injection e558)
            replace p558 := eq_true p558
            replace q558 := eq_true q558
            have p559 : 0 ≤ (a2 : Int) := oda
            have q559 : a2 < (t530.length : Int) := oda
            obtain ⟨ad559, e559, hx559_0⟩ := Kd.at_int (Kd.R_reads' HO_9.out).2.2 a2 p559 q559
            obtain rfl : ad555 = ad559 := (by injection e559)
            replace p559 := eq_true p559
            replace q559 := eq_true q559
            have c51d := c51b0
            rw [show decide (rd t546 a1 ≥ 0) = _ from c52b0] at c51d
            simp only [beq_true, beq_false, Bool.not_eq_true'] at c51d
            go_wp2
            repeat (go_quiet (fail); try go_wp2)
            go_ret
            exact ⟨by first | rfl | (simp [errW_none, errW_some] <;> rfl) | (simp [*, errW_none, errW_some] <;> rfl), lb⟩
          ·
           rw [if_neg c52] at H
           have c52b0 : decide (0 ≤ (rd t546 a1)) = false := decide_eq_false c52
           clear c52
           by_cases c67 : (rd t542 a2) < 0
           ·
            rw [if_pos c67] at H
            have c67b0 : decide ((rd t542 a2) < 0) = true := decide_eq_true c67
            clear c67
            obtain rfl := Option.some.inj H
            obtain ⟨Ao68, co68, eo68⟩ := Kd.R_slice HO_7.out
            subst eo68
            have hcz69_0 : wc.cell? ⟨gb524, 0, none⟩ = some (.int .i64 a0_0) := (blk_cell BK524.out 0).trans rfl
            have hcz69_1 : wc.cell? ⟨gb524, 1, none⟩ = some (.slice A0_1 l0_1.length c0_1) := (blk_cell BK524.out 1).trans rfl
            have hfz69_0 := blk_frozen BK524.out 0
            have hfz69_1 := blk_frozen BK524.out 1
            obtain ⟨Ao70, co70, eo70⟩ := Kd.R_slice HO_9.out
            subst eo70
            obtain ⟨Ao71, co71, eo71⟩ := Kd.R_slice HO_13.out
            subst eo71
            obtain ⟨Ao72, co72, eo72⟩ := Kd.R_slice HO_15.out
            subst eo72
            have p551 : 0 ≤ (a2 : Int) := oda
            have q551 : a2 < (t542.length : Int) := oda
            obtain ⟨ad551, e551, hx551_0⟩ := Kd.at_int (Kd.R_reads' HO_13.out).2.2 a2 p551 q551
            cases e551
            replace p551 := eq_true p551
            replace q551 := eq_true q551
            have p552 : 0 ≤ (a1 : Int) := oda
            have q552 : a1 < (t546.length : Int) := oda
            obtain ⟨ad552, e552, hx552_0⟩ := Kd.at_int (Kd.R_reads' HO_15.out).2.2 a1 p552 q552
            cases e552
            replace p552 := eq_true p552
            replace q552 := eq_true q552
            have p553 : 0 ≤ (a1 : Int) := oda
            have q553 : a1 < (t526.length : Int) := oda
            obtain ⟨ad553, e553, hx553_0⟩ := Kd.at_int (Kd.R_reads' HO_7.out).2.2 a1 p553 q553
            cases e553
            replace p553 := eq_true p553
            replace q553 := eq_true q553
            have p554 : 0 ≤ (a2 : Int) := oda
            have q554 : a2 < (t526.length : Int) := oda
            obtain ⟨ad554, e554, hx554_0⟩ := Kd.at_int (Kd.R_reads' HO_7.out).2.2 a2 p554 q554
            obtain rfl : ad553 = ad554 := (by injection e554)
            replace p554 := eq_true p554
            replace q554 := eq_true q554
            have p560 : 0 ≤ (a2 : Int) := oda
            have q560 : a2 < (t542.length : Int) := oda
            obtain ⟨ad560, e560, hx560_0⟩ := Kd.at_int (Kd.R_reads' HO_13.out).2.2 a2 p560 q560
            obtain rfl : ad551 = ad560 := (by injection e560)
            replace p560 := eq_true p560
            replace q560 := eq_true q560
            exfalso; simp only [decide_eq_true_eq, decide_eq_false_iff_not] at *; omega
           ·
            rw [if_neg c67] at H
            have c67b0 : decide ((rd t542 a2) < 0) = false := decide_eq_false c67
            clear c67
            by_cases c73 : a1 < (t530.length : Int)
            rotate_left
            ·
             rw [if_neg c73] at H
             exact absurd H (by simp)
            rw [if_pos c73] at H
            have c73b0 : decide (a1 < (t530.length : Int)) = true := decide_eq_true c73
            clear c73
            by_cases c74 : a2 < (t530.length : Int)
            rotate_left
            ·
             rw [if_neg c74] at H
             exact absurd H (by simp)
            rw [if_pos c74] at H
            have c74b0 : decide (a2 < (t530.length : Int)) = true := decide_eq_true c74
            clear c74
            obtain rfl := Option.some.inj H
            obtain ⟨Ao75, co75, eo75⟩ := Kd.R_slice HO_7.out
            subst eo75
            have hcz76_0 : wc.cell? ⟨gb524, 0, none⟩ = some (.int .i64 a0_0) := (blk_cell BK524.out 0).trans rfl
            have hcz76_1 : wc.cell? ⟨gb524, 1, none⟩ = some (.slice A0_1 l0_1.length c0_1) := (blk_cell BK524.out 1).trans rfl
            have hfz76_0 := blk_frozen BK524.out 0
            have hfz76_1 := blk_frozen BK524.out 1
            obtain ⟨Ao77, co77, eo77⟩ := Kd.R_slice HO_9.out
            subst eo77
            obtain ⟨Ao78, co78, eo78⟩ := Kd.R_slice HO_13.out
            subst eo78
            obtain ⟨Ao79, co79, eo79⟩ := Kd.R_slice HO_15.out
            subst eo79
            have p551 : 0 ≤ (a2 : Int) := oda
            have q551 : a2 < (t542.length : Int) := oda
            obtain ⟨ad551, e551, hx551_0⟩ := Kd.at_int (Kd.R_reads' HO_13.out).2.2 a2 p551 q551
            cases e551
            replace p551 := eq_true p551
            replace q551 := eq_true q551
            have p552 : 0 ≤ (a1 : Int) := oda
            have q552 : a1 < (t546.length : Int) := oda
            obtain ⟨ad552, e552, hx552_0⟩ := Kd.at_int (Kd.R_reads' HO_15.out).2.2 a1 p552 q552
            cases e552
            replace p552 := eq_true p552
            replace q552 := eq_true q552
            have p553 : 0 ≤ (a1 : Int) := oda
            have q553 : a1 < (t526.length : Int) := oda
            obtain ⟨ad553, e553, hx553_0⟩ := Kd.at_int (Kd.R_reads' HO_7.out).2.2 a1 p553 q553
            cases e553
            replace p553 := eq_true p553
            replace q553 := eq_true q553
            have p554 : 0 ≤ (a2 : Int) := oda
            have q554 : a2 < (t526.length : Int) := oda
            obtain ⟨ad554, e554, hx554_0⟩ := Kd.at_int (Kd.R_reads' HO_7.out).2.2 a2 p554 q554
            obtain rfl : ad553 = ad554 := (by injection e554)
            replace p554 := eq_true p554
            replace q554 := eq_true q554
            have p560 : 0 ≤ (a2 : Int) := oda
            have q560 : a2 < (t542.length : Int) := oda
            obtain ⟨ad560, e560, hx560_0⟩ := Kd.at_int (Kd.R_reads' HO_13.out).2.2 a2 p560 q560
            obtain rfl : ad551 = ad560 := (by injection e560)
            replace p560 := eq_true p560
            replace q560 := eq_true q560
            have p561 : 0 ≤ (a1 : Int) := oda
            have q561 : a1 < (t530.length : Int) := oda
            obtain ⟨ad561, e561, hx561_0⟩ := Kd.at_int (Kd.R_reads' HO_9.out).2.2 a1 p561 q561
            cases e561
            replace p561 := eq_true p561
            replace q561 := eq_true q561
            have p562 : 0 ≤ (a2 : Int) := oda
            have q562 : a2 < (t530.length : Int) := oda
            obtain ⟨ad562, e562, hx562_0⟩ := Kd.at_int (Kd.R_reads' HO_9.out).2.2 a2 p562 q562
            obtain rfl : ad561 = ad562 := (by injection e562)
            replace p562 := eq_true p562
            replace q562 := eq_true q562
            have c51d := c51b0
            rw [show decide (rd t546 a1 ≥ 0) = _ from c52b0] at c51d
            simp only [beq_true, beq_false, Bool.not_eq_true'] at c51d
            go_wp2
            repeat (go_quiet (fail); try go_wp2)
            go_ret
            exact ⟨by first | rfl | (simp [errW_none, errW_some] <;> rfl) | (simp [*, errW_none, errW_some] <;> rfl), lb⟩
         ·
          rw [if_neg c51] at H
          have c51b0 : (((rd t526 a1) == (rd t526 a2)) == (decide ((rd t546 a1) ≥ 0))) = false := by simpa using c51
          (try (have c51b1 : decide (((rd t526 a1) == (rd t526 a2)) = (decide ((rd t546 a1) ≥ 0))) = false := by simpa using c51))
          (try (have c51b2 : (((rd t526 a1) == (rd t526 a2)) == (decide ((rd t546 a1) ≥ 0))) = false := by simpa using c51))
          (try (have c51b3 : ¬ (((rd t526 a1) == (rd t526 a2)) = (decide ((rd t546 a1) ≥ 0))) := by simpa using c51))
          clear c51
          exact absurd ((Option.some.inj H).trans HR_.out) (by decide)
        ·
         rw [if_neg c46] at H
         have c46b0 : decide (0 ≤ (rd t542 a2)) = false := decide_eq_false c46
         clear c46
         by_cases c80 : 0 ≤ a1
         rotate_left
         ·
          rw [if_neg c80] at H
          exact absurd H (by simp)
         rw [if_pos c80] at H
         have c80b0 : decide (0 ≤ a1) = true := decide_eq_true c80
         clear c80
         by_cases c81 : a1 < (t526.length : Int)
         rotate_left
         ·
          rw [if_neg c81] at H
          exact absurd H (by simp)
         rw [if_pos c81] at H
         have c81b0 : decide (a1 < (t526.length : Int)) = true := decide_eq_true c81
         clear c81
         by_cases c82 : a2 < (t526.length : Int)
         rotate_left
         ·
          rw [if_neg c82] at H
          exact absurd H (by simp)
         rw [if_pos c82] at H
         have c82b0 : decide (a2 < (t526.length : Int)) = true := decide_eq_true c82
         clear c82
         by_cases c83 : (((rd t526 a1) == (rd t526 a2)) == false) = true
         ·
          rw [if_pos c83] at H
          have c83b0 : (((rd t526 a1) == (rd t526 a2)) == false) = true := c83
          (try (have c83b1 : decide (((rd t526 a1) == (rd t526 a2)) = false) = true := by simpa using c83))
          (try (have c83b2 : (((rd t526 a1) == (rd t526 a2)) == false) = true := by simpa using c83))
          clear c83
          by_cases c84 : (rd t542 a2) < 0
          ·
           rw [if_pos c84] at H
           have c84b0 : decide ((rd t542 a2) < 0) = true := decide_eq_true c84
           clear c84
           obtain rfl := Option.some.inj H
           obtain ⟨Ao85, co85, eo85⟩ := Kd.R_slice HO_7.out
           subst eo85
           have hcz86_0 : wc.cell? ⟨gb524, 0, none⟩ = some (.int .i64 a0_0) := (blk_cell BK524.out 0).trans rfl
           have hcz86_1 : wc.cell? ⟨gb524, 1, none⟩ = some (.slice A0_1 l0_1.length c0_1) := (blk_cell BK524.out 1).trans rfl
           have hfz86_0 := blk_frozen BK524.out 0
           have hfz86_1 := blk_frozen BK524.out 1
           obtain ⟨Ao87, co87, eo87⟩ := Kd.R_slice HO_9.out
           subst eo87
           obtain ⟨Ao88, co88, eo88⟩ := Kd.R_slice HO_13.out
           subst eo88
           obtain ⟨Ao89, co89, eo89⟩ := Kd.R_slice HO_15.out
           subst eo89
           have p551 : 0 ≤ (a2 : Int) := oda
           have q551 : a2 < (t542.length : Int) := oda
           obtain ⟨ad551, e551, hx551_0⟩ := Kd.at_int (Kd.R_reads' HO_13.out).2.2 a2 p551 q551
           cases e551
           replace p551 := eq_true p551
           replace q551 := eq_true q551
           have p563 : 0 ≤ (a1 : Int) := oda
           have q563 : a1 < (t526.length : Int) := oda
           obtain ⟨ad563, e563, hx563_0⟩ := Kd.at_int (Kd.R_reads' HO_7.out).2.2 a1 p563 q563
           cases e563
           replace p563 := eq_true p563
           replace q563 := eq_true q563
           have p564 : 0 ≤ (a2 : Int) := oda
           have q564 : a2 < (t526.length : Int) := oda
           obtain ⟨ad564, e564, hx564_0⟩ := Kd.at_int (Kd.R_reads' HO_7.out).2.2 a2 p564 q564
           obtain rfl : ad563 = ad564 := (by injection e564)
           replace p564 := eq_true p564
           replace q564 := eq_true q564
           have p565 : 0 ≤ (a2 : Int) := oda
           have q565 : a2 < (t542.length : Int) := oda
           obtain ⟨ad565, e565, hx565_0⟩ := Kd.at_int (Kd.R_reads' HO_13.out).2.2 a2 p565 q565
           obtain rfl : ad551 = ad565 := (by injection e565)
           replace p565 := eq_true p565
           replace q565 := eq_true q565
           go_wp2
           repeat (go_quiet (fail); try go_wp2)
           go_ret
           exact ⟨by first | rfl | (simp [errW_none, errW_some] <;> rfl) | (simp [*, errW_none, errW_some] <;> rfl), lb⟩
          ·
           rw [if_neg c84] at H
           have c84b0 : decide ((rd t542 a2) < 0) = false := decide_eq_false c84
           clear c84
           by_cases c90 : a1 < (t530.length : Int)
           rotate_left
           ·
            rw [if_neg c90] at H
            exact absurd H (by simp)
           rw [if_pos c90] at H
           have c90b0 : decide (a1 < (t530.length : Int)) = true := decide_eq_true c90
           clear c90
           by_cases c91 : a2 < (t530.length : Int)
           rotate_left
           ·
            rw [if_neg c91] at H
            exact absurd H (by simp)
           rw [if_pos c91] at H
           have c91b0 : decide (a2 < (t530.length : Int)) = true := decide_eq_true c91
           clear c91
           obtain rfl := Option.some.inj H
           obtain ⟨Ao92, co92, eo92⟩ := Kd.R_slice HO_7.out
           subst eo92
           have hcz93_0 : wc.cell? ⟨gb524, 0, none⟩ = some (.int .i64 a0_0) := (blk_cell BK524.out 0).trans rfl
           have hcz93_1 : wc.cell? ⟨gb524, 1, none⟩ = some (.slice A0_1 l0_1.length c0_1) := (blk_cell BK524.out 1).trans rfl
           have hfz93_0 := blk_frozen BK524.out 0
           have hfz93_1 := blk_frozen BK524.out 1
           obtain ⟨Ao94, co94, eo94⟩ := Kd.R_slice HO_9.out
           subst eo94
           obtain ⟨Ao95, co95, eo95⟩ := Kd.R_slice HO_13.out
           subst eo95
           obtain ⟨Ao96, co96, eo96⟩ := Kd.R_slice HO_15.out
           subst eo96
           have p551 : 0 ≤ (a2 : Int) := oda
           have q551 : a2 < (t542.length : Int) := oda
           obtain ⟨ad551, e551, hx551_0⟩ := Kd.at_int (Kd.R_reads' HO_13.out).2.2 a2 p551 q551
           cases e551
           replace p551 := eq_true p551
           replace q551 := eq_true q551
           have p563 : 0 ≤ (a1 : Int) := oda
           have q563 : a1 < (t526.length : Int) := oda
           obtain ⟨ad563, e563, hx563_0⟩ := Kd.at_int (Kd.R_reads' HO_7.out).2.2 a1 p563 q563
           cases e563
           replace p563 := eq_true p563
           replace q563 := eq_true q563
           have p564 : 0 ≤ (a2 : Int) := oda
           have q564 : a2 < (t526.length : Int) := oda
           obtain ⟨ad564, e564, hx564_0⟩ := Kd.at_int (Kd.R_reads' HO_7.out).2.2 a2 p564 q564
           obtain rfl : ad563 = ad564 := (by injection e564)
           replace p564 := eq_true p564
           replace q564 := eq_true q564
           have p565 : 0 ≤ (a2 : Int) := oda
           have q565 : a2 < (t542.length : Int) := oda
           obtain ⟨ad565, e565, hx565_0⟩ := Kd.at_int (Kd.R_reads' HO_13.out).2.2 a2 p565 q565
           obtain rfl : ad551 = ad565 := (by injection e565)
           replace p565 := eq_true p565
           replace q565 := eq_true q565
           have p566 : 0 ≤ (a1 : Int) := oda
           have q566 : a1 < (t530.length : Int) := oda
           obtain ⟨ad566, e566, hx566_0⟩ := Kd.at_int (Kd.R_reads' HO_9.out).2.2 a1 p566 q566
           cases e566
           replace p566 := eq_true p566
           replace q566 := eq_true q566
           have p567 : 0 ≤ (a2 : Int) := oda
           have q567 : a2 < (t530.length : Int) := oda
           obtain ⟨ad567, e567, hx567_0⟩ := Kd.at_int (Kd.R_reads' HO_9.out).2.2 a2 p567 q567
           obtain rfl : ad566 = ad567 := (by injection e567)
           replace p567 := eq_true p567
           replace q567 := eq_true q567
           go_wp2
           repeat (go_quiet (fail); try go_wp2)
           go_ret
           exact ⟨by first | rfl | (simp [errW_none, errW_some] <;> rfl) | (simp [*, errW_none, errW_some] <;> rfl), lb⟩
         ·
          rw [if_neg c83] at H
          have c83b0 : (((rd t526 a1) == (rd t526 a2)) == false) = false := by simpa using c83
          (try (have c83b1 : decide (((rd t526 a1) == (rd t526 a2)) = false) = false := by simpa using c83))
          (try (have c83b2 : (((rd t526 a1) == (rd t526 a2)) == false) = false := by simpa using c83))
          (try (have c83b3 : ¬ (((rd t526 a1) == (rd t526 a2)) = false) := by simpa using c83))
          clear c83
          exact absurd ((Option.some.inj H).trans HR_.out) (by decide)
 ·
  replace c5 := Bool.eq_false_iff.mpr c5
  subst c5
  have H1 : (some false) = some r := by rw [if_neg (show ¬ (false = true) by decide)] at H; exact H
  clear H
  have H := H1
  clear H1
  exact absurd ((Option.some.inj H).trans HR_.out) (by decide)

end Go.Proofs.Ytacklfnnpiobgaa.Q
