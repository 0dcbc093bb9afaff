-- PRINTED by print.py (a twelfth state) out of the translation. Not trusted: Lean checks it.
import Derived.Test.YtofcjoccnbegdaaQ0
import Derived.Test.YtofcjoccnbegdaaQ1
import Derived.Test.YtofcjoccnbegdaaQ3
import Derived.Test.YtofcjoccnbegdaaQ8
import Derived.Test.YtofcjoccnbegdaaQ9
import Derived.Test.YtofcjoccnbegdaaQ11
namespace Go.Proofs.Ytofcjoccnbegdaa.Q
open Go.RowKit Go.Proofs.YtofcjoccnbegdaaW.PrintWords Go.Proofs.YtofcjoccnbegdaaW.PrintLast Go.Proofs.YtofcjoccnbegdaaW.PrintMore
attribute [local go_sem] max2_int min2_int max_two min_two max_three min_three max_four min_four   -- for this text's walks alone
set_option linter.unusedVariables false
set_option linter.unusedSimpArgs false

attribute [local go_sem high] eqA37
/-! ### compasslaw01_SafeRatios: function 5 -/
def compasslaw01_SafeRatios.j0 : Nat → Int → Int → Bool → Option (Bool)
  | 0, _, _, _ => none
  | k + 1, x0, x1, x25 => if x25 = true then (some false) else ((safeint_NewRatio.f k x0 x1).bind fun bt231 => (if x1 = 0 then (if bt231.2.2 = 11 then (some (bt231.1 == 0 && (bt231.2.1 == 0))) else (some false)) else (if bt231.2.2 = 10 then (if (bt231.1 == 0 && (bt231.2.1 == 0)) = true then (if (Go.bits .and .i64 x0 1) = 0 then (if x0 = (-9223372036854775808) then (if x1 < 0 then (some ((Go.bits .and .i64 x1 1) != 0)) else (some false)) else (some false)) else (if x1 = (-9223372036854775808) then (some true) else (if x0 = (-9223372036854775808) then (if x1 < 0 then (some ((Go.bits .and .i64 x1 1) != 0)) else (some false)) else (some false)))) else (some false)) else ((compassref01_Of.f k bt231.1).bind fun bt235 => ((compassref01_Of.f k x1).bind fun bt239 => ((compassref01_Times.f k bt235.1 bt235.2 bt239.1 bt239.2).bind fun bt243 => ((compassref01_Of.f k x0).bind fun bt248 => ((compassref01_Of.f k bt231.2.1).bind fun bt252 => ((compassref01_Times.f k bt248.1 bt248.2 bt252.1 bt252.2).bind fun bt256 => (if bt231.2.2 = 0 then (if bt231.2.1 > 0 then ((safeint_Gcd.f k bt231.1 bt231.2.1).bind fun t261 => (if t261 = 1 then ((compassref01_Compare.f k bt243.1 bt243.2 bt256.1 bt256.2).bind fun t262 => (some (t262 == 0))) else (some false))) else (some false)) else (some false)))))))))))
def compasslaw01_SafeRatios.f (k : Nat) (a0 : Int) (a1 : Int) : Option (Bool) := (safeint_NewRatio.f k 6 (-4)).bind fun bt226 => (if (!(bt226.1 == (-3)) || (!(bt226.2.1 == 2))) = true then (compasslaw01_SafeRatios.j0 k a0 a1 true) else (if bt226.2.2 = 0 then ((safeint_Gcd.f k 12 18).bind fun t230 => (compasslaw01_SafeRatios.j0 k a0 a1 (t230 != 6))) else (compasslaw01_SafeRatios.j0 k a0 a1 true)))
theorem compasslaw01_SafeRatios.mono_l : ∀ k, (∀ y0 y1 y2, LeO (compasslaw01_SafeRatios.j0 k y0 y1 y2) (compasslaw01_SafeRatios.j0 (k + 1) y0 y1 y2))
  | 0 => fun _ _ _ r h => by simp [compasslaw01_SafeRatios.j0] at h
  | k + 1 => by
    have ih0 := compasslaw01_SafeRatios.mono_l k
    · intro y0 y1 y2
      unfold compasslaw01_SafeRatios.j0
      repeat' first
      | (with_reducible exact ih0 _ _ _)
      | (with_reducible exact compassref01_Compare.mono _ _ _ _ _)
      | (with_reducible exact compassref01_Of.mono _ _)
      | (with_reducible exact compassref01_Times.mono _ _ _ _ _)
      | (with_reducible exact safeint_Gcd.mono _ _ _)
      | (with_reducible exact safeint_NewRatio.mono _ _ _)
      | (with_reducible exact LeO.refl _)
      | (with_reducible exact LeO.none _)
      | (with_reducible refine LeO.ite ?_ ?_)
      | (with_reducible refine LeO.bind ?_ (fun _ => ?_))
      | exact ih0 _ _ _
      | exact compassref01_Compare.mono _ _ _ _ _
      | exact compassref01_Of.mono _ _
      | exact compassref01_Times.mono _ _ _ _ _
      | exact safeint_Gcd.mono _ _ _
      | exact safeint_NewRatio.mono _ _ _
      | exact LeO.none _
      | refine LeO.ite ?_ ?_
      | refine LeO.bind ?_ (fun _ => ?_)
theorem compasslaw01_SafeRatios.mono : ∀ a0 a1 k, LeO (compasslaw01_SafeRatios.f k a0 a1) (compasslaw01_SafeRatios.f (k + 1) a0 a1) := by
  intro a0 a1 k
  have ih0 := compasslaw01_SafeRatios.mono_l k
  unfold compasslaw01_SafeRatios.f
  repeat' first
      | (with_reducible exact ih0 _ _ _)
      | (with_reducible exact compassref01_Compare.mono _ _ _ _ _)
      | (with_reducible exact compassref01_Of.mono _ _)
      | (with_reducible exact compassref01_Times.mono _ _ _ _ _)
      | (with_reducible exact safeint_Gcd.mono _ _ _)
      | (with_reducible exact safeint_NewRatio.mono _ _ _)
      | (with_reducible exact LeO.refl _)
      | (with_reducible exact LeO.none _)
      | (with_reducible refine LeO.ite ?_ ?_)
      | (with_reducible refine LeO.bind ?_ (fun _ => ?_))
      | exact ih0 _ _ _
      | exact compassref01_Compare.mono _ _ _ _ _
      | exact compassref01_Of.mono _ _
      | exact compassref01_Times.mono _ _ _ _ _
      | exact safeint_Gcd.mono _ _ _
      | exact safeint_NewRatio.mono _ _ _
      | exact LeO.none _
      | refine LeO.ite ?_ ?_
      | refine LeO.bind ?_ (fun _ => ?_)
def compasslaw01_SafeRatios.T10 : Bool × List (List Nat × List Nat) := (true, [([], []), ([0], [0]), ([], []), ([2], [2]), ([3, 1], [3]), ([1, 4, 4], [1, 4]), ([], []), ([6, 5, 5, 0, 1, 2, 3, 4, 5, 6], [5, 6])])
def compasslaw01_SafeRatios.B10 : List Nat := [0, 1, 0, 4, 15, 31, 0, 127]
theorem compasslaw01_SafeRatios.tab10 : rtab .any (opsOf Try.f5 10) = compasslaw01_SafeRatios.T10 := by kernel_rfl
theorem compasslaw01_SafeRatios.bits10 : waitsOk compasslaw01_SafeRatios.T10.2 compasslaw01_SafeRatios.B10 = true := by kernel_rfl
set_option maxHeartbeats 8000000 in
set_option maxRecDepth 100000 in
theorem compasslaw01_SafeRatios.calls (k : Nat) (a0 : Int) (a1 : Int) (r : Bool) (w : World) (hr_ : r = true) (h : compasslaw01_SafeRatios.f k a0 a1 = some r) :
    Calls Try.prog 5 #[.int .i64 a0, .int .i64 a1] w fun e w' => e = .returned (.bool r) ∧ Below w.heap.size w w' := by
  have hu37 := Try.underlying37
  have hu31 := Try.underlying31
  have HB := Aside0.mk (Below.refl w.heap.size w)
  have HR_ := Aside0.mk hr_
  clear hr_
  have H : ((safeint_NewRatio.f k 6 (-4)).bind fun bt226 => (if (!(bt226.1 == (-3)) || (!(bt226.2.1 == 2))) = true then (compasslaw01_SafeRatios.j0 k a0 a1 true) else (if bt226.2.2 = 0 then ((safeint_Gcd.f k 12 18).bind fun t230 => (compasslaw01_SafeRatios.j0 k a0 a1 (t230 != 6))) else (compasslaw01_SafeRatios.j0 k a0 a1 true)))) = some r := h
  clear h
  replace H := Option.bind_eq_some_iff.mp H
  obtain ⟨⟨t226, t227, t228⟩, A30, H⟩ := H
  replace H : (if (!(t226 == (-3)) || (!(t227 == 2))) = true then (compasslaw01_SafeRatios.j0 k a0 a1 true) else (if t228 = 0 then ((safeint_Gcd.f k 12 18).bind fun t230 => (compasslaw01_SafeRatios.j0 k a0 a1 (t230 != 6))) else (compasslaw01_SafeRatios.j0 k a0 a1 true))) = some r := H
  have A3 := Aside0.mk A30
  clear A30
  have HC4 := Aside0.mk H
  clear H
  go_enter Try.func5, Try.ntmps5
  go_upto_region 2 with (first | ((with_reducible refine gate_callee (f := 17) rfl ?_); refine goesL_ (some 12) rfl rfl Try.func17 (by kernel_rfl) rfl #[.int .i64 6, .int .i64 (-4)] rfl (by (try simp only [List.map_toArray, List.map_cons, List.map_nil]); first | done | rfl | (simp only [List.length_drop, List.length_take]; rfl) | (simp only [*]; rfl) | (simp [*]; done) | (simp [*]; (repeat' apply And.intro) <;> rfl)) ?_; (with_reducible refine (safeint_NewRatio.calls k 6 (-4) t226 t227 t228 _ A3.out).mono ?_); rintro e w5 ⟨rfl, hb⟩; refine ⟨_, rfl, ?_⟩; have n0_ := Aside0.mk (below_step (by repeat (first | (with_reducible first | exact HB.out | apply below_alloc | apply pw_below_drewN | apply below_drew1) | exact HB.out)) hb); clear HB; have HB := n0_; clear n0_; (try clear hb); (try clear hb2); (try clear hk); (try clear hi)) | ((with_reducible refine gate_dst (N := 5) rfl ?_); refine box_event ?hg (N := 5) ?hd (cs := #[.int .i64 0, .int .i64 0]) (t := 37) ?hr ?_; (case hd => rfl); (case hg => rfl); (case hr => first | (go_simp; done) | (go_simp; rfl)); intro gb229 hg w6 hbox hb; have n0_ := Aside0.mk (below_step (by repeat (first | (with_reducible first | exact HB.out | apply below_alloc | apply pw_below_drewN | apply below_drew1) | exact HB.out)) hb); have n1_ := Aside0.mk (hbox); have n2_ := Aside0.mk ((by rw [hg]; exact (below_size (by repeat (first | (with_reducible first | exact HB.out | apply below_alloc | apply pw_below_drewN | apply below_drew1) | exact HB.out))) : w.heap.size ≤ gb229)); have n3_ := Aside0.mk ((by rw [hg]; exact (below_size (by repeat (first | (with_reducible first | exact HB.out | apply below_alloc | apply pw_below_drewN | apply below_drew1) | exact HB.out))) : w.heap.size ≤ gb229)); clear HB; have HB := n0_; have BK229 := n1_; have GW229 := n2_; have GE229 := n3_; clear n0_ n1_ n2_ n3_; clear hb hbox hg; have hcz7_0 : w6.cell? ⟨gb229, 0, none⟩ = some (.int .i64 0) := (blk_cell BK229.out 0).trans rfl; have hcz7_1 : w6.cell? ⟨gb229, 1, none⟩ = some (.int .i64 0) := (blk_cell BK229.out 1).trans rfl; have hfz7_0 := blk_frozen BK229.out 0; have hfz7_1 := blk_frozen BK229.out 1))
  (try simp only [Act.put, List.setIfInBounds_toArray, List.set_cons_zero, List.set_cons_succ])
  go_cut [25] (fun v25 wc => ∃ (kq : Nat) (x25_3 : Bool), v25 = .bool x25_3 ∧ Aside0 (compasslaw01_SafeRatios.j0 kq a0 a1 x25_3 = some r) ∧ Aside0 (kq ≤ k) ∧ Aside0 (wc.heap[gb229]? = some (.cells #[.int .i64 t226, .int .i64 t227] 37 (0, 0))) ∧ Aside0 (Below w.heap.size w wc))
  case first =>
    have H := HC4.out
    clear HC4
    by_cases c8 : (!(t226 == (-3)) || (!(t227 == 2))) = true
    · rw [if_pos c8] at H
      have c8b0 : (!(t226 == (-3)) || (!(t227 == 2))) = true := c8
      clear c8
      (first | rw [c8b0] | (simp only [i64_w, i32_w]; rw [c8b0]) | skip)
      have H' := Aside0.mk H
      clear H
      have hcz9_0 : w6.cell? ⟨gb229, 0, none⟩ = some (.int .i64 0) := (blk_cell BK229.out 0).trans rfl
      have hcz9_1 : w6.cell? ⟨gb229, 1, none⟩ = some (.int .i64 0) := (blk_cell BK229.out 1).trans rfl
      have hfz9_0 := blk_frozen BK229.out 0
      have hfz9_1 := blk_frozen BK229.out 1
      go_wp2
      go_meet
      case rel => exact ⟨_, (true), (by first | rfl | (simp; done) | (simp [*]; done)), H', ⟨by first | omega | exact Nat.le_refl _⟩, ⟨by (with_reducible repeat (first | refine blk_drewN ?_ _ | refine blk_drew ?_ | refine blk_alloc ?_ _)); refine blk_put (cs := #[.int .i64 t226, .int .i64 0]) ?_ 1 _ rfl; (with_reducible repeat (first | refine blk_drewN ?_ _ | refine blk_drew ?_ | refine blk_alloc ?_ _)); refine blk_put (cs := #[.int .i64 0, .int .i64 0]) ?_ 0 _ rfl; (with_reducible repeat (first | refine blk_drewN ?_ _ | refine blk_drew ?_ | refine blk_alloc ?_ _)); exact BK229.out⟩, ⟨by repeat (first | (with_reducible first | exact HB.out | apply below_alloc | apply pw_below_drewN | apply below_drew1 | refine below_set ?_ GE229.out) | exact HB.out)⟩⟩
    · rw [if_neg c8] at H
      have c8b0 : (!(t226 == (-3)) || (!(t227 == 2))) = false := by simpa using c8
      clear c8
      (first | rw [c8b0] | (simp only [i64_w, i32_w]; rw [c8b0]) | skip)
      by_cases c10 : t228 = 0
      · rw [if_pos c10] at H
        have c10b0 : (t228 == 0) = true := beq_iff_eq.mpr c10
        have c10b1 : (t228 != 0) = false := bne_eq_false_iff_eq.mpr c10
        clear c10
        replace H := Option.bind_eq_some_iff.mp H
        obtain ⟨t230, A110, H⟩ := H
        replace H : (compasslaw01_SafeRatios.j0 k a0 a1 (t230 != 6)) = some r := H
        have A11 := Aside0.mk A110
        clear A110
        have H' := Aside0.mk H
        clear H
        have hcz12_0 : w6.cell? ⟨gb229, 0, none⟩ = some (.int .i64 0) := (blk_cell BK229.out 0).trans rfl
        have hcz12_1 : w6.cell? ⟨gb229, 1, none⟩ = some (.int .i64 0) := (blk_cell BK229.out 1).trans rfl
        have hfz12_0 := blk_frozen BK229.out 0
        have hfz12_1 := blk_frozen BK229.out 1
        go_wp2_with (first | (go_at_call 10; (with_reducible refine (safeint_Gcd.calls k 12 18 t230 _ A11.out).mono ?_); rintro e w' ⟨rfl, ⟨nd, rfl⟩⟩))
        go_meet
        case rel => exact ⟨_, ((t230 != 6)), (by first | rfl | (simp; done) | (simp [*]; done)), H', ⟨by first | omega | exact Nat.le_refl _⟩, ⟨by (with_reducible repeat (first | refine blk_drewN ?_ _ | refine blk_drew ?_ | refine blk_alloc ?_ _)); refine blk_put (cs := #[.int .i64 t226, .int .i64 0]) ?_ 1 _ rfl; (with_reducible repeat (first | refine blk_drewN ?_ _ | refine blk_drew ?_ | refine blk_alloc ?_ _)); refine blk_put (cs := #[.int .i64 0, .int .i64 0]) ?_ 0 _ rfl; (with_reducible repeat (first | refine blk_drewN ?_ _ | refine blk_drew ?_ | refine blk_alloc ?_ _)); exact BK229.out⟩, ⟨by repeat (first | (with_reducible first | exact HB.out | apply below_alloc | apply pw_below_drewN | apply below_drew1 | refine below_set ?_ GE229.out) | exact HB.out)⟩⟩
      · rw [if_neg c10] at H
        have c10b0 : (t228 == 0) = false := beq_eq_false_iff_ne.mpr c10
        have c10b1 : (t228 != 0) = true := bne_iff_ne.mpr c10
        have H' := Aside0.mk H
        clear H
        have hcz13_0 : w6.cell? ⟨gb229, 0, none⟩ = some (.int .i64 0) := (blk_cell BK229.out 0).trans rfl
        have hcz13_1 : w6.cell? ⟨gb229, 1, none⟩ = some (.int .i64 0) := (blk_cell BK229.out 1).trans rfl
        have hfz13_0 := blk_frozen BK229.out 0
        have hfz13_1 := blk_frozen BK229.out 1
        go_wp2
        go_meet
        case rel => exact ⟨_, (true), (by first | rfl | (simp; done) | (simp [*]; done)), H', ⟨by first | omega | exact Nat.le_refl _⟩, ⟨by (with_reducible repeat (first | refine blk_drewN ?_ _ | refine blk_drew ?_ | refine blk_alloc ?_ _)); refine blk_put (cs := #[.int .i64 t226, .int .i64 0]) ?_ 1 _ rfl; (with_reducible repeat (first | refine blk_drewN ?_ _ | refine blk_drew ?_ | refine blk_alloc ?_ _)); refine blk_put (cs := #[.int .i64 0, .int .i64 0]) ?_ 0 _ rfl; (with_reducible repeat (first | refine blk_drewN ?_ _ | refine blk_drew ?_ | refine blk_alloc ?_ _)); exact BK229.out⟩, ⟨by repeat (first | (with_reducible first | exact HB.out | apply below_alloc | apply pw_below_drewN | apply below_drew1 | refine below_set ?_ GE229.out) | exact HB.out)⟩⟩
  case rest =>
    clear HC4
    try clear c1
    try clear p2
    try clear c5
    try clear c8
    try clear c8b0
    try clear c10
    try clear c10b0
    try clear c10b1
    try clear hcz12_0
    try clear hcz12_1
    try clear hcz13_0
    try clear hcz13_1
    try clear hcz7_0
    try clear hcz7_1
    try clear hcz9_0
    try clear hcz9_1
    try clear hfz12_0
    try clear hfz12_1
    try clear hfz13_0
    try clear hfz13_1
    try clear hfz7_0
    try clear hfz7_1
    try clear hfz9_0
    try clear hfz9_1
    obtain ⟨kq, x25_3, rfl, HA, HJ3, BK229, HB⟩ := hcut
    cases kq with
    | zero => exact absurd HA.out (by simp [compasslaw01_SafeRatios.j0])
    | succ kj3 =>
      have H := HA.out
      clear HA
      simp only [compasslaw01_SafeRatios.j0] at H
      by_cases c14 : x25_3 = true
      · subst c14
        have H1 : (some false) = some r := by rw [if_pos rfl] at H; exact H
        clear H
        have H := H1
        clear H1
        exact absurd ((Option.some.inj H).trans HR_.out) (by decide)
      · replace c14 := Bool.eq_false_iff.mpr c14
        subst c14
        have H1 : ((safeint_NewRatio.f kj3 a0 a1).bind fun bt231 => (if a1 = 0 then (if bt231.2.2 = 11 then (some (bt231.1 == 0 && (bt231.2.1 == 0))) else (some false)) else (if bt231.2.2 = 10 then (if (bt231.1 == 0 && (bt231.2.1 == 0)) = true then (if (Go.bits .and .i64 a0 1) = 0 then (if a0 = (-9223372036854775808) then (if a1 < 0 then (some ((Go.bits .and .i64 a1 1) != 0)) else (some false)) else (some false)) else (if a1 = (-9223372036854775808) then (some true) else (if a0 = (-9223372036854775808) then (if a1 < 0 then (some ((Go.bits .and .i64 a1 1) != 0)) else (some false)) else (some false)))) else (some false)) else ((compassref01_Of.f kj3 bt231.1).bind fun bt235 => ((compassref01_Of.f kj3 a1).bind fun bt239 => ((compassref01_Times.f kj3 bt235.1 bt235.2 bt239.1 bt239.2).bind fun bt243 => ((compassref01_Of.f kj3 a0).bind fun bt248 => ((compassref01_Of.f kj3 bt231.2.1).bind fun bt252 => ((compassref01_Times.f kj3 bt248.1 bt248.2 bt252.1 bt252.2).bind fun bt256 => (if bt231.2.2 = 0 then (if bt231.2.1 > 0 then ((safeint_Gcd.f kj3 bt231.1 bt231.2.1).bind fun t261 => (if t261 = 1 then ((compassref01_Compare.f kj3 bt243.1 bt243.2 bt256.1 bt256.2).bind fun t262 => (some (t262 == 0))) else (some false))) else (some false)) else (some false))))))))))) = some r := by rw [if_neg (show ¬ (false = true) by decide)] at H; exact H
        clear H
        have H := H1
        clear H1
        replace H := Option.bind_eq_some_iff.mp H
        obtain ⟨⟨t231, t232, t233⟩, A150, H⟩ := H
        replace H : (if a1 = 0 then (if t233 = 11 then (some (t231 == 0 && (t232 == 0))) else (some false)) else (if t233 = 10 then (if (t231 == 0 && (t232 == 0)) = true then (if (Go.bits .and .i64 a0 1) = 0 then (if a0 = (-9223372036854775808) then (if a1 < 0 then (some ((Go.bits .and .i64 a1 1) != 0)) else (some false)) else (some false)) else (if a1 = (-9223372036854775808) then (some true) else (if a0 = (-9223372036854775808) then (if a1 < 0 then (some ((Go.bits .and .i64 a1 1) != 0)) else (some false)) else (some false)))) else (some false)) else ((compassref01_Of.f kj3 t231).bind fun bt235 => ((compassref01_Of.f kj3 a1).bind fun bt239 => ((compassref01_Times.f kj3 bt235.1 bt235.2 bt239.1 bt239.2).bind fun bt243 => ((compassref01_Of.f kj3 a0).bind fun bt248 => ((compassref01_Of.f kj3 t232).bind fun bt252 => ((compassref01_Times.f kj3 bt248.1 bt248.2 bt252.1 bt252.2).bind fun bt256 => (if t233 = 0 then (if t232 > 0 then ((safeint_Gcd.f kj3 t231 t232).bind fun t261 => (if t261 = 1 then ((compassref01_Compare.f kj3 bt243.1 bt243.2 bt256.1 bt256.2).bind fun t262 => (some (t262 == 0))) else (some false))) else (some false)) else (some false)))))))))) = some r := H
        have A15 := Aside0.mk A150
        clear A150
        by_cases c16 : a1 = 0
        · rw [if_pos c16] at H
          have c16b0 : (a1 == 0) = true := beq_iff_eq.mpr c16
          have c16b1 : (a1 != 0) = false := bne_eq_false_iff_eq.mpr c16
          clear c16
          by_cases c17 : t233 = 11
          · rw [if_pos c17] at H
            have c17b0 : (t233 == 11) = true := beq_iff_eq.mpr c17
            have c17b1 : (t233 != 11) = false := bne_eq_false_iff_eq.mpr c17
            clear c17
            obtain rfl := Option.some.inj H
            go_wp2_with (first | ((with_reducible refine gate_callee (f := 17) rfl ?_); refine goesL_ (some 29) rfl rfl Try.func17 (by kernel_rfl) rfl #[.int .i64 a0, .int .i64 a1] rfl (by (try simp only [List.map_toArray, List.map_cons, List.map_nil]); first | done | rfl | (simp only [List.length_drop, List.length_take]; rfl) | (simp only [*]; rfl) | (simp [*]; done) | (simp [*]; (repeat' apply And.intro) <;> rfl)) ?_; (with_reducible refine (safeint_NewRatio.calls kj3 a0 a1 t231 t232 t233 _ A15.out).mono ?_); rintro e w18 ⟨rfl, hb⟩; refine ⟨_, rfl, ?_⟩; have n0_ := Aside0.mk (blk_below (g := gb229) (o := .cells #[.int .i64 t226, .int .i64 t227] 37 (0, 0)) (by (with_reducible repeat (first | refine blk_drewN ?_ _ | refine blk_drew ?_ | refine blk_alloc ?_ _)); exact BK229.out) hb); have n1_ := Aside0.mk (below_step (by repeat (first | (with_reducible first | exact HB.out | apply below_alloc | apply pw_below_drewN | apply below_drew1 | refine below_set ?_ GE229.out) | exact HB.out)) hb); clear BK229; clear HB; have BK229 := n0_; have HB := n1_; clear n0_ n1_; (try clear hb); (try clear hb2); (try clear hk); (try clear hi)) | ((with_reducible refine gate_dst (N := 7) rfl ?_); refine box_event ?hg (N := 7) ?hd (cs := #[.int .i64 0, .int .i64 0]) (t := 37) ?hr ?_; (case hd => rfl); (case hg => rfl); (case hr => first | (go_simp; done) | (go_simp; rfl)); intro gb234 hg w19 hbox hb; have n0_ := Aside0.mk (blk_below (g := gb229) (o := .cells #[.int .i64 t226, .int .i64 t227] 37 (0, 0)) (by (with_reducible repeat (first | refine blk_drewN ?_ _ | refine blk_drew ?_ | refine blk_alloc ?_ _)); exact BK229.out) hb); have n1_ := Aside0.mk (below_step (by repeat (first | (with_reducible first | exact HB.out | apply below_alloc | apply pw_below_drewN | apply below_drew1 | refine below_set ?_ GE229.out) | exact HB.out)) hb); have n2_ := Aside0.mk (hbox); have n3_ := Aside0.mk ((by rw [hg]; exact (below_size (by repeat (first | (with_reducible first | exact HB.out | apply below_alloc | apply pw_below_drewN | apply below_drew1 | refine below_set ?_ GE229.out) | exact HB.out))) : w.heap.size ≤ gb234)); have n4_ := Aside0.mk ((by rw [hg]; exact (below_size (by repeat (first | (with_reducible first | exact HB.out | apply below_alloc | apply pw_below_drewN | apply below_drew1 | refine below_set ?_ GE229.out) | exact HB.out))) : w.heap.size ≤ gb234)); have n5_ := Aside0.mk ((by rw [hg]; exact Nat.ne_of_lt (blk_lt (g := gb229) (o := .cells #[.int .i64 t226, .int .i64 t227] 37 (0, 0)) (by (with_reducible repeat (first | refine blk_drewN ?_ _ | refine blk_drew ?_ | refine blk_alloc ?_ _)); exact BK229.out)) : gb229 ≠ gb234)); have n6_ := Aside0.mk ((by rw [hg]; exact Nat.ne_of_gt (blk_lt (g := gb229) (o := .cells #[.int .i64 t226, .int .i64 t227] 37 (0, 0)) (by (with_reducible repeat (first | refine blk_drewN ?_ _ | refine blk_drew ?_ | refine blk_alloc ?_ _)); exact BK229.out)) : gb234 ≠ gb229)); clear BK229; clear HB; have BK229 := n0_; have HB := n1_; have BK234 := n2_; have GW234 := n3_; have GE234 := n4_; have NB229_234 := n5_; have NB234_229 := n6_; clear n0_ n1_ n2_ n3_ n4_ n5_ n6_; clear hb hbox hg; have hnb20 := NB234_229.out; have hnc20 := NB229_234.out; have hcz21_0 : w19.cell? ⟨gb234, 0, none⟩ = some (.int .i64 0) := (blk_cell BK234.out 0).trans rfl; have hcz21_1 : w19.cell? ⟨gb234, 1, none⟩ = some (.int .i64 0) := (blk_cell BK234.out 1).trans rfl; have hfz21_0 := blk_frozen BK234.out 0; have hfz21_1 := blk_frozen BK234.out 1))
            go_ret
            exact ⟨by first | rfl | (simp [errW_none, errW_some] <;> rfl) | (simp [*, errW_none, errW_some] <;> rfl), by repeat (first | (with_reducible first | exact HB.out | apply below_alloc | apply pw_below_drewN | apply below_drew1 | refine below_set ?_ GE229.out | refine below_set ?_ GE234.out) | exact HB.out)⟩
          · rw [if_neg c17] at H
            have c17b0 : (t233 == 11) = false := beq_eq_false_iff_ne.mpr c17
            have c17b1 : (t233 != 11) = true := bne_iff_ne.mpr c17
            exact absurd ((Option.some.inj H).trans HR_.out) (by decide)
        · rw [if_neg c16] at H
          have c16b0 : (a1 == 0) = false := beq_eq_false_iff_ne.mpr c16
          have c16b1 : (a1 != 0) = true := bne_iff_ne.mpr c16
          by_cases c22 : t233 = 10
          · rw [if_pos c22] at H
            have c22b0 : (t233 == 10) = true := beq_iff_eq.mpr c22
            have c22b1 : (t233 != 10) = false := bne_eq_false_iff_eq.mpr c22
            clear c22
            by_cases c23 : (t231 == 0 && (t232 == 0)) = true
            · rw [if_pos c23] at H
              have c23b0 : (t231 == 0 && (t232 == 0)) = true := c23
              (try (have c23b1 : decide (t231 = 0 && (t232 == 0)) = true := by simpa using c23))
              (try (have c23b2 : (t231 == 0 && (t232 == 0)) = true := by simpa using c23))
              clear c23
              by_cases c24 : (Go.bits .and .i64 a0 1) = 0
              · rw [if_pos c24] at H
                have c24b0 : ((Go.bits .and .i64 a0 1) == 0) = true := beq_iff_eq.mpr c24
                have c24b1 : ((Go.bits .and .i64 a0 1) != 0) = false := bne_eq_false_iff_eq.mpr c24
                clear c24
                by_cases c25 : a0 = (-9223372036854775808)
                · rw [if_pos c25] at H
                  have c25b0 : (a0 == (-9223372036854775808)) = true := beq_iff_eq.mpr c25
                  have c25b1 : (a0 != (-9223372036854775808)) = false := bne_eq_false_iff_eq.mpr c25
                  clear c25
                  by_cases c26 : a1 < 0
                  · rw [if_pos c26] at H
                    have c26b0 : decide (a1 < 0) = true := decide_eq_true c26
                    clear c26
                    obtain rfl := Option.some.inj H
                    go_wp2_with (first | ((with_reducible refine gate_callee (f := 17) rfl ?_); refine goesL_ (some 29) rfl rfl Try.func17 (by kernel_rfl) rfl #[.int .i64 a0, .int .i64 a1] rfl (by (try simp only [List.map_toArray, List.map_cons, List.map_nil]); first | done | rfl | (simp only [List.length_drop, List.length_take]; rfl) | (simp only [*]; rfl) | (simp [*]; done) | (simp [*]; (repeat' apply And.intro) <;> rfl)) ?_; (with_reducible refine (safeint_NewRatio.calls kj3 a0 a1 t231 t232 t233 _ A15.out).mono ?_); rintro e w27 ⟨rfl, hb⟩; refine ⟨_, rfl, ?_⟩; have n0_ := Aside0.mk (blk_below (g := gb229) (o := .cells #[.int .i64 t226, .int .i64 t227] 37 (0, 0)) (by (with_reducible repeat (first | refine blk_drewN ?_ _ | refine blk_drew ?_ | refine blk_alloc ?_ _)); exact BK229.out) hb); have n1_ := Aside0.mk (below_step (by repeat (first | (with_reducible first | exact HB.out | apply below_alloc | apply pw_below_drewN | apply below_drew1 | refine below_set ?_ GE229.out) | exact HB.out)) hb); clear BK229; clear HB; have BK229 := n0_; have HB := n1_; clear n0_ n1_; (try clear hb); (try clear hb2); (try clear hk); (try clear hi)) | ((with_reducible refine gate_dst (N := 7) rfl ?_); refine box_event ?hg (N := 7) ?hd (cs := #[.int .i64 0, .int .i64 0]) (t := 37) ?hr ?_; (case hd => rfl); (case hg => rfl); (case hr => first | (go_simp; done) | (go_simp; rfl)); intro gb234 hg w28 hbox hb; have n0_ := Aside0.mk (blk_below (g := gb229) (o := .cells #[.int .i64 t226, .int .i64 t227] 37 (0, 0)) (by (with_reducible repeat (first | refine blk_drewN ?_ _ | refine blk_drew ?_ | refine blk_alloc ?_ _)); exact BK229.out) hb); have n1_ := Aside0.mk (below_step (by repeat (first | (with_reducible first | exact HB.out | apply below_alloc | apply pw_below_drewN | apply below_drew1 | refine below_set ?_ GE229.out) | exact HB.out)) hb); have n2_ := Aside0.mk (hbox); have n3_ := Aside0.mk ((by rw [hg]; exact (below_size (by repeat (first | (with_reducible first | exact HB.out | apply below_alloc | apply pw_below_drewN | apply below_drew1 | refine below_set ?_ GE229.out) | exact HB.out))) : w.heap.size ≤ gb234)); have n4_ := Aside0.mk ((by rw [hg]; exact (below_size (by repeat (first | (with_reducible first | exact HB.out | apply below_alloc | apply pw_below_drewN | apply below_drew1 | refine below_set ?_ GE229.out) | exact HB.out))) : w.heap.size ≤ gb234)); have n5_ := Aside0.mk ((by rw [hg]; exact Nat.ne_of_lt (blk_lt (g := gb229) (o := .cells #[.int .i64 t226, .int .i64 t227] 37 (0, 0)) (by (with_reducible repeat (first | refine blk_drewN ?_ _ | refine blk_drew ?_ | refine blk_alloc ?_ _)); exact BK229.out)) : gb229 ≠ gb234)); have n6_ := Aside0.mk ((by rw [hg]; exact Nat.ne_of_gt (blk_lt (g := gb229) (o := .cells #[.int .i64 t226, .int .i64 t227] 37 (0, 0)) (by (with_reducible repeat (first | refine blk_drewN ?_ _ | refine blk_drew ?_ | refine blk_alloc ?_ _)); exact BK229.out)) : gb234 ≠ gb229)); clear BK229; clear HB; have BK229 := n0_; have HB := n1_; have BK234 := n2_; have GW234 := n3_; have GE234 := n4_; have NB229_234 := n5_; have NB234_229 := n6_; clear n0_ n1_ n2_ n3_ n4_ n5_ n6_; clear hb hbox hg; have hnb29 := NB234_229.out; have hnc29 := NB229_234.out; have hcz30_0 : w28.cell? ⟨gb234, 0, none⟩ = some (.int .i64 0) := (blk_cell BK234.out 0).trans rfl; have hcz30_1 : w28.cell? ⟨gb234, 1, none⟩ = some (.int .i64 0) := (blk_cell BK234.out 1).trans rfl; have hfz30_0 := blk_frozen BK234.out 0; have hfz30_1 := blk_frozen BK234.out 1))
                    go_ret
                    exact ⟨by first | rfl | (simp [errW_none, errW_some] <;> rfl) | (simp [*, errW_none, errW_some] <;> rfl), by repeat (first | (with_reducible first | exact HB.out | apply below_alloc | apply pw_below_drewN | apply below_drew1 | refine below_set ?_ GE229.out | refine below_set ?_ GE234.out) | exact HB.out)⟩
                  · rw [if_neg c26] at H
                    have c26b0 : decide (a1 < 0) = false := decide_eq_false c26
                    clear c26
                    exact absurd ((Option.some.inj H).trans HR_.out) (by decide)
                · rw [if_neg c25] at H
                  have c25b0 : (a0 == (-9223372036854775808)) = false := beq_eq_false_iff_ne.mpr c25
                  have c25b1 : (a0 != (-9223372036854775808)) = true := bne_iff_ne.mpr c25
                  exact absurd ((Option.some.inj H).trans HR_.out) (by decide)
              · rw [if_neg c24] at H
                have c24b0 : ((Go.bits .and .i64 a0 1) == 0) = false := beq_eq_false_iff_ne.mpr c24
                have c24b1 : ((Go.bits .and .i64 a0 1) != 0) = true := bne_iff_ne.mpr c24
                by_cases c31 : a1 = (-9223372036854775808)
                · rw [if_pos c31] at H
                  have c31b0 : (a1 == (-9223372036854775808)) = true := beq_iff_eq.mpr c31
                  have c31b1 : (a1 != (-9223372036854775808)) = false := bne_eq_false_iff_eq.mpr c31
                  clear c31
                  obtain rfl := Option.some.inj H
                  go_wp2_with (first | ((with_reducible refine gate_callee (f := 17) rfl ?_); refine goesL_ (some 29) rfl rfl Try.func17 (by kernel_rfl) rfl #[.int .i64 a0, .int .i64 a1] rfl (by (try simp only [List.map_toArray, List.map_cons, List.map_nil]); first | done | rfl | (simp only [List.length_drop, List.length_take]; rfl) | (simp only [*]; rfl) | (simp [*]; done) | (simp [*]; (repeat' apply And.intro) <;> rfl)) ?_; (with_reducible refine (safeint_NewRatio.calls kj3 a0 a1 t231 t232 t233 _ A15.out).mono ?_); rintro e w32 ⟨rfl, hb⟩; refine ⟨_, rfl, ?_⟩; have n0_ := Aside0.mk (blk_below (g := gb229) (o := .cells #[.int .i64 t226, .int .i64 t227] 37 (0, 0)) (by (with_reducible repeat (first | refine blk_drewN ?_ _ | refine blk_drew ?_ | refine blk_alloc ?_ _)); exact BK229.out) hb); have n1_ := Aside0.mk (below_step (by repeat (first | (with_reducible first | exact HB.out | apply below_alloc | apply pw_below_drewN | apply below_drew1 | refine below_set ?_ GE229.out) | exact HB.out)) hb); clear BK229; clear HB; have BK229 := n0_; have HB := n1_; clear n0_ n1_; (try clear hb); (try clear hb2); (try clear hk); (try clear hi)) | ((with_reducible refine gate_dst (N := 7) rfl ?_); refine box_event ?hg (N := 7) ?hd (cs := #[.int .i64 0, .int .i64 0]) (t := 37) ?hr ?_; (case hd => rfl); (case hg => rfl); (case hr => first | (go_simp; done) | (go_simp; rfl)); intro gb234 hg w33 hbox hb; have n0_ := Aside0.mk (blk_below (g := gb229) (o := .cells #[.int .i64 t226, .int .i64 t227] 37 (0, 0)) (by (with_reducible repeat (first | refine blk_drewN ?_ _ | refine blk_drew ?_ | refine blk_alloc ?_ _)); exact BK229.out) hb); have n1_ := Aside0.mk (below_step (by repeat (first | (with_reducible first | exact HB.out | apply below_alloc | apply pw_below_drewN | apply below_drew1 | refine below_set ?_ GE229.out) | exact HB.out)) hb); have n2_ := Aside0.mk (hbox); have n3_ := Aside0.mk ((by rw [hg]; exact (below_size (by repeat (first | (with_reducible first | exact HB.out | apply below_alloc | apply pw_below_drewN | apply below_drew1 | refine below_set ?_ GE229.out) | exact HB.out))) : w.heap.size ≤ gb234)); have n4_ := Aside0.mk ((by rw [hg]; exact (below_size (by repeat (first | (with_reducible first | exact HB.out | apply below_alloc | apply pw_below_drewN | apply below_drew1 | refine below_set ?_ GE229.out) | exact HB.out))) : w.heap.size ≤ gb234)); have n5_ := Aside0.mk ((by rw [hg]; exact Nat.ne_of_lt (blk_lt (g := gb229) (o := .cells #[.int .i64 t226, .int .i64 t227] 37 (0, 0)) (by (with_reducible repeat (first | refine blk_drewN ?_ _ | refine blk_drew ?_ | refine blk_alloc ?_ _)); exact BK229.out)) : gb229 ≠ gb234)); have n6_ := Aside0.mk ((by rw [hg]; exact Nat.ne_of_gt (blk_lt (g := gb229) (o := .cells #[.int .i64 t226, .int .i64 t227] 37 (0, 0)) (by (with_reducible repeat (first | refine blk_drewN ?_ _ | refine blk_drew ?_ | refine blk_alloc ?_ _)); exact BK229.out)) : gb234 ≠ gb229)); clear BK229; clear HB; have BK229 := n0_; have HB := n1_; have BK234 := n2_; have GW234 := n3_; have GE234 := n4_; have NB229_234 := n5_; have NB234_229 := n6_; clear n0_ n1_ n2_ n3_ n4_ n5_ n6_; clear hb hbox hg; have hnb34 := NB234_229.out; have hnc34 := NB229_234.out; have hcz35_0 : w33.cell? ⟨gb234, 0, none⟩ = some (.int .i64 0) := (blk_cell BK234.out 0).trans rfl; have hcz35_1 : w33.cell? ⟨gb234, 1, none⟩ = some (.int .i64 0) := (blk_cell BK234.out 1).trans rfl; have hfz35_0 := blk_frozen BK234.out 0; have hfz35_1 := blk_frozen BK234.out 1))
                  go_ret
                  exact ⟨by first | rfl | (simp [errW_none, errW_some] <;> rfl) | (simp [*, errW_none, errW_some] <;> rfl), by repeat (first | (with_reducible first | exact HB.out | apply below_alloc | apply pw_below_drewN | apply below_drew1 | refine below_set ?_ GE229.out | refine below_set ?_ GE234.out) | exact HB.out)⟩
                · rw [if_neg c31] at H
                  have c31b0 : (a1 == (-9223372036854775808)) = false := beq_eq_false_iff_ne.mpr c31
                  have c31b1 : (a1 != (-9223372036854775808)) = true := bne_iff_ne.mpr c31
                  by_cases c36 : a0 = (-9223372036854775808)
                  · rw [if_pos c36] at H
                    have c36b0 : (a0 == (-9223372036854775808)) = true := beq_iff_eq.mpr c36
                    have c36b1 : (a0 != (-9223372036854775808)) = false := bne_eq_false_iff_eq.mpr c36
                    clear c36
                    by_cases c37 : a1 < 0
                    · rw [if_pos c37] at H
                      have c37b0 : decide (a1 < 0) = true := decide_eq_true c37
                      clear c37
                      obtain rfl := Option.some.inj H
                      go_wp2_with (first | ((with_reducible refine gate_callee (f := 17) rfl ?_); refine goesL_ (some 29) rfl rfl Try.func17 (by kernel_rfl) rfl #[.int .i64 a0, .int .i64 a1] rfl (by (try simp only [List.map_toArray, List.map_cons, List.map_nil]); first | done | rfl | (simp only [List.length_drop, List.length_take]; rfl) | (simp only [*]; rfl) | (simp [*]; done) | (simp [*]; (repeat' apply And.intro) <;> rfl)) ?_; (with_reducible refine (safeint_NewRatio.calls kj3 a0 a1 t231 t232 t233 _ A15.out).mono ?_); rintro e w38 ⟨rfl, hb⟩; refine ⟨_, rfl, ?_⟩; have n0_ := Aside0.mk (blk_below (g := gb229) (o := .cells #[.int .i64 t226, .int .i64 t227] 37 (0, 0)) (by (with_reducible repeat (first | refine blk_drewN ?_ _ | refine blk_drew ?_ | refine blk_alloc ?_ _)); exact BK229.out) hb); have n1_ := Aside0.mk (below_step (by repeat (first | (with_reducible first | exact HB.out | apply below_alloc | apply pw_below_drewN | apply below_drew1 | refine below_set ?_ GE229.out) | exact HB.out)) hb); clear BK229; clear HB; have BK229 := n0_; have HB := n1_; clear n0_ n1_; (try clear hb); (try clear hb2); (try clear hk); (try clear hi)) | ((with_reducible refine gate_dst (N := 7) rfl ?_); refine box_event ?hg (N := 7) ?hd (cs := #[.int .i64 0, .int .i64 0]) (t := 37) ?hr ?_; (case hd => rfl); (case hg => rfl); (case hr => first | (go_simp; done) | (go_simp; rfl)); intro gb234 hg w39 hbox hb; have n0_ := Aside0.mk (blk_below (g := gb229) (o := .cells #[.int .i64 t226, .int .i64 t227] 37 (0, 0)) (by (with_reducible repeat (first | refine blk_drewN ?_ _ | refine blk_drew ?_ | refine blk_alloc ?_ _)); exact BK229.out) hb); have n1_ := Aside0.mk (below_step (by repeat (first | (with_reducible first | exact HB.out | apply below_alloc | apply pw_below_drewN | apply below_drew1 | refine below_set ?_ GE229.out) | exact HB.out)) hb); have n2_ := Aside0.mk (hbox); have n3_ := Aside0.mk ((by rw [hg]; exact (below_size (by repeat (first | (with_reducible first | exact HB.out | apply below_alloc | apply pw_below_drewN | apply below_drew1 | refine below_set ?_ GE229.out) | exact HB.out))) : w.heap.size ≤ gb234)); have n4_ := Aside0.mk ((by rw [hg]; exact (below_size (by repeat (first | (with_reducible first | exact HB.out | apply below_alloc | apply pw_below_drewN | apply below_drew1 | refine below_set ?_ GE229.out) | exact HB.out))) : w.heap.size ≤ gb234)); have n5_ := Aside0.mk ((by rw [hg]; exact Nat.ne_of_lt (blk_lt (g := gb229) (o := .cells #[.int .i64 t226, .int .i64 t227] 37 (0, 0)) (by (with_reducible repeat (first | refine blk_drewN ?_ _ | refine blk_drew ?_ | refine blk_alloc ?_ _)); exact BK229.out)) : gb229 ≠ gb234)); have n6_ := Aside0.mk ((by rw [hg]; exact Nat.ne_of_gt (blk_lt (g := gb229) (o := .cells #[.int .i64 t226, .int .i64 t227] 37 (0, 0)) (by (with_reducible repeat (first | refine blk_drewN ?_ _ | refine blk_drew ?_ | refine blk_alloc ?_ _)); exact BK229.out)) : gb234 ≠ gb229)); clear BK229; clear HB; have BK229 := n0_; have HB := n1_; have BK234 := n2_; have GW234 := n3_; have GE234 := n4_; have NB229_234 := n5_; have NB234_229 := n6_; clear n0_ n1_ n2_ n3_ n4_ n5_ n6_; clear hb hbox hg; have hnb40 := NB234_229.out; have hnc40 := NB229_234.out; have hcz41_0 : w39.cell? ⟨gb234, 0, none⟩ = some (.int .i64 0) := (blk_cell BK234.out 0).trans rfl; have hcz41_1 : w39.cell? ⟨gb234, 1, none⟩ = some (.int .i64 0) := (blk_cell BK234.out 1).trans rfl; have hfz41_0 := blk_frozen BK234.out 0; have hfz41_1 := blk_frozen BK234.out 1))
                      go_ret
                      exact ⟨by first | rfl | (simp [errW_none, errW_some] <;> rfl) | (simp [*, errW_none, errW_some] <;> rfl), by repeat (first | (with_reducible first | exact HB.out | apply below_alloc | apply pw_below_drewN | apply below_drew1 | refine below_set ?_ GE229.out | refine below_set ?_ GE234.out) | exact HB.out)⟩
                    · rw [if_neg c37] at H
                      have c37b0 : decide (a1 < 0) = false := decide_eq_false c37
                      clear c37
                      exact absurd ((Option.some.inj H).trans HR_.out) (by decide)
                  · rw [if_neg c36] at H
                    have c36b0 : (a0 == (-9223372036854775808)) = false := beq_eq_false_iff_ne.mpr c36
                    have c36b1 : (a0 != (-9223372036854775808)) = true := bne_iff_ne.mpr c36
                    exact absurd ((Option.some.inj H).trans HR_.out) (by decide)
            · rw [if_neg c23] at H
              have c23b0 : (t231 == 0 && (t232 == 0)) = false := by simpa using c23
              (try (have c23b1 : decide (t231 = 0 && (t232 == 0)) = false := by simpa using c23))
              (try (have c23b2 : (t231 == 0 && (t232 == 0)) = false := by simpa using c23))
              (try (have c23b3 : ¬ (t231 = 0 && (t232 == 0)) := by simpa using c23))
              clear c23
              exact absurd ((Option.some.inj H).trans HR_.out) (by decide)
          · rw [if_neg c22] at H
            have c22b0 : (t233 == 10) = false := beq_eq_false_iff_ne.mpr c22
            have c22b1 : (t233 != 10) = true := bne_iff_ne.mpr c22
            replace H := Option.bind_eq_some_iff.mp H
            obtain ⟨⟨t235, t236⟩, A420, H⟩ := H
            replace H : ((compassref01_Of.f kj3 a1).bind fun bt239 => ((compassref01_Times.f kj3 t235 t236 bt239.1 bt239.2).bind fun bt243 => ((compassref01_Of.f kj3 a0).bind fun bt248 => ((compassref01_Of.f kj3 t232).bind fun bt252 => ((compassref01_Times.f kj3 bt248.1 bt248.2 bt252.1 bt252.2).bind fun bt256 => (if t233 = 0 then (if t232 > 0 then ((safeint_Gcd.f kj3 t231 t232).bind fun t261 => (if t261 = 1 then ((compassref01_Compare.f kj3 bt243.1 bt243.2 bt256.1 bt256.2).bind fun t262 => (some (t262 == 0))) else (some false))) else (some false)) else (some false))))))) = some r := H
            have A42 := Aside0.mk A420
            clear A420
            replace H := Option.bind_eq_some_iff.mp H
            obtain ⟨⟨t239, t240⟩, A430, H⟩ := H
            replace H : ((compassref01_Times.f kj3 t235 t236 t239 t240).bind fun bt243 => ((compassref01_Of.f kj3 a0).bind fun bt248 => ((compassref01_Of.f kj3 t232).bind fun bt252 => ((compassref01_Times.f kj3 bt248.1 bt248.2 bt252.1 bt252.2).bind fun bt256 => (if t233 = 0 then (if t232 > 0 then ((safeint_Gcd.f kj3 t231 t232).bind fun t261 => (if t261 = 1 then ((compassref01_Compare.f kj3 bt243.1 bt243.2 bt256.1 bt256.2).bind fun t262 => (some (t262 == 0))) else (some false))) else (some false)) else (some false)))))) = some r := H
            have A43 := Aside0.mk A430
            clear A430
            replace H := Option.bind_eq_some_iff.mp H
            obtain ⟨⟨t243, t244⟩, A440, H⟩ := H
            replace H : ((compassref01_Of.f kj3 a0).bind fun bt248 => ((compassref01_Of.f kj3 t232).bind fun bt252 => ((compassref01_Times.f kj3 bt248.1 bt248.2 bt252.1 bt252.2).bind fun bt256 => (if t233 = 0 then (if t232 > 0 then ((safeint_Gcd.f kj3 t231 t232).bind fun t261 => (if t261 = 1 then ((compassref01_Compare.f kj3 t243 t244 bt256.1 bt256.2).bind fun t262 => (some (t262 == 0))) else (some false))) else (some false)) else (some false))))) = some r := H
            have A44 := Aside0.mk A440
            clear A440
            replace H := Option.bind_eq_some_iff.mp H
            obtain ⟨⟨t248, t249⟩, A450, H⟩ := H
            replace H : ((compassref01_Of.f kj3 t232).bind fun bt252 => ((compassref01_Times.f kj3 t248 t249 bt252.1 bt252.2).bind fun bt256 => (if t233 = 0 then (if t232 > 0 then ((safeint_Gcd.f kj3 t231 t232).bind fun t261 => (if t261 = 1 then ((compassref01_Compare.f kj3 t243 t244 bt256.1 bt256.2).bind fun t262 => (some (t262 == 0))) else (some false))) else (some false)) else (some false)))) = some r := H
            have A45 := Aside0.mk A450
            clear A450
            replace H := Option.bind_eq_some_iff.mp H
            obtain ⟨⟨t252, t253⟩, A460, H⟩ := H
            replace H : ((compassref01_Times.f kj3 t248 t249 t252 t253).bind fun bt256 => (if t233 = 0 then (if t232 > 0 then ((safeint_Gcd.f kj3 t231 t232).bind fun t261 => (if t261 = 1 then ((compassref01_Compare.f kj3 t243 t244 bt256.1 bt256.2).bind fun t262 => (some (t262 == 0))) else (some false))) else (some false)) else (some false))) = some r := H
            have A46 := Aside0.mk A460
            clear A460
            replace H := Option.bind_eq_some_iff.mp H
            obtain ⟨⟨t256, t257⟩, A470, H⟩ := H
            replace H : (if t233 = 0 then (if t232 > 0 then ((safeint_Gcd.f kj3 t231 t232).bind fun t261 => (if t261 = 1 then ((compassref01_Compare.f kj3 t243 t244 t256 t257).bind fun t262 => (some (t262 == 0))) else (some false))) else (some false)) else (some false)) = some r := H
            have A47 := Aside0.mk A470
            clear A470
            by_cases c48 : t233 = 0
            · rw [if_pos c48] at H
              have c48b0 : (t233 == 0) = true := beq_iff_eq.mpr c48
              have c48b1 : (t233 != 0) = false := bne_eq_false_iff_eq.mpr c48
              clear c48
              by_cases c49 : t232 > 0
              · rw [if_pos c49] at H
                have c49b0 : decide (0 < t232) = true := decide_eq_true c49
                clear c49
                replace H := Option.bind_eq_some_iff.mp H
                obtain ⟨t261, A500, H⟩ := H
                replace H : (if t261 = 1 then ((compassref01_Compare.f kj3 t243 t244 t256 t257).bind fun t262 => (some (t262 == 0))) else (some false)) = some r := H
                have A50 := Aside0.mk A500
                clear A500
                by_cases c51 : t261 = 1
                · rw [if_pos c51] at H
                  have c51b0 : (t261 == 1) = true := beq_iff_eq.mpr c51
                  have c51b1 : (t261 != 1) = false := bne_eq_false_iff_eq.mpr c51
                  clear c51
                  replace H := Option.bind_eq_some_iff.mp H
                  obtain ⟨t262, A520, H⟩ := H
                  replace H : (some (t262 == 0)) = some r := H
                  have A52 := Aside0.mk A520
                  clear A520
                  obtain rfl := Option.some.inj H
                  try go_wp2_with (first | ((with_reducible refine gate_callee (f := 17) rfl ?_); refine goesL_ (some 29) rfl rfl Try.func17 (by kernel_rfl) rfl #[.int .i64 a0, .int .i64 a1] rfl (by (try simp only [List.map_toArray, List.map_cons, List.map_nil]); first | done | rfl | (simp only [List.length_drop, List.length_take]; rfl) | (simp only [*]; rfl) | (simp [*]; done) | (simp [*]; (repeat' apply And.intro) <;> rfl)) ?_; (with_reducible refine (safeint_NewRatio.calls kj3 a0 a1 t231 t232 t233 _ A15.out).mono ?_); rintro e w53 ⟨rfl, hb⟩; refine ⟨_, rfl, ?_⟩; have n0_ := Aside0.mk (blk_below (g := gb229) (o := .cells #[.int .i64 t226, .int .i64 t227] 37 (0, 0)) (by (with_reducible repeat (first | refine blk_drewN ?_ _ | refine blk_drew ?_ | refine blk_alloc ?_ _)); exact BK229.out) hb); have n1_ := Aside0.mk (below_step (by repeat (first | (with_reducible first | exact HB.out | apply below_alloc | apply pw_below_drewN | apply below_drew1 | refine below_set ?_ GE229.out) | exact HB.out)) hb); clear BK229; clear HB; have BK229 := n0_; have HB := n1_; clear n0_ n1_; (try clear hb); (try clear hb2); (try clear hk); (try clear hi)) | ((with_reducible refine gate_dst (N := 7) rfl ?_); refine box_event ?hg (N := 7) ?hd (cs := #[.int .i64 0, .int .i64 0]) (t := 37) ?hr ?_; (case hd => rfl); (case hg => rfl); (case hr => first | (go_simp; done) | (go_simp; rfl)); intro gb234 hg w54 hbox hb; have n0_ := Aside0.mk (blk_below (g := gb229) (o := .cells #[.int .i64 t226, .int .i64 t227] 37 (0, 0)) (by (with_reducible repeat (first | refine blk_drewN ?_ _ | refine blk_drew ?_ | refine blk_alloc ?_ _)); exact BK229.out) hb); have n1_ := Aside0.mk (below_step (by repeat (first | (with_reducible first | exact HB.out | apply below_alloc | apply pw_below_drewN | apply below_drew1 | refine below_set ?_ GE229.out) | exact HB.out)) hb); have n2_ := Aside0.mk (hbox); have n3_ := Aside0.mk ((by rw [hg]; exact (below_size (by repeat (first | (with_reducible first | exact HB.out | apply below_alloc | apply pw_below_drewN | apply below_drew1 | refine below_set ?_ GE229.out) | exact HB.out))) : w.heap.size ≤ gb234)); have n4_ := Aside0.mk ((by rw [hg]; exact (below_size (by repeat (first | (with_reducible first | exact HB.out | apply below_alloc | apply pw_below_drewN | apply below_drew1 | refine below_set ?_ GE229.out) | exact HB.out))) : w.heap.size ≤ gb234)); have n5_ := Aside0.mk ((by rw [hg]; exact Nat.ne_of_lt (blk_lt (g := gb229) (o := .cells #[.int .i64 t226, .int .i64 t227] 37 (0, 0)) (by (with_reducible repeat (first | refine blk_drewN ?_ _ | refine blk_drew ?_ | refine blk_alloc ?_ _)); exact BK229.out)) : gb229 ≠ gb234)); have n6_ := Aside0.mk ((by rw [hg]; exact Nat.ne_of_gt (blk_lt (g := gb229) (o := .cells #[.int .i64 t226, .int .i64 t227] 37 (0, 0)) (by (with_reducible repeat (first | refine blk_drewN ?_ _ | refine blk_drew ?_ | refine blk_alloc ?_ _)); exact BK229.out)) : gb234 ≠ gb229)); clear BK229; clear HB; have BK229 := n0_; have HB := n1_; have BK234 := n2_; have GW234 := n3_; have GE234 := n4_; have NB229_234 := n5_; have NB234_229 := n6_; clear n0_ n1_ n2_ n3_ n4_ n5_ n6_; clear hb hbox hg; have hnb55 := NB234_229.out; have hnc55 := NB229_234.out; have hcz56_0 : w54.cell? ⟨gb234, 0, none⟩ = some (.int .i64 0) := (blk_cell BK234.out 0).trans rfl; have hcz56_1 : w54.cell? ⟨gb234, 1, none⟩ = some (.int .i64 0) := (blk_cell BK234.out 1).trans rfl; have hfz56_0 := blk_frozen BK234.out 0; have hfz56_1 := blk_frozen BK234.out 1) | ((with_reducible refine gate_callee (f := 15) rfl ?_); refine goesL_ (some 75) rfl rfl Try.func15 (by kernel_rfl) rfl #[.int .i64 t231] rfl (by (try simp only [List.map_toArray, List.map_cons, List.map_nil]); first | done | rfl | (simp only [List.length_drop, List.length_take]; rfl) | (simp only [*]; rfl) | (simp [*]; done) | (simp [*]; (repeat' apply And.intro) <;> rfl)) ?_; (with_reducible refine (compassref01_Of.calls kj3 t231 t235 t236 _ A42.out).mono ?_); rintro e w57 ⟨v237, rfl, ho0, hb⟩; refine ⟨_, rfl, ?_⟩; have n0_ := Aside0.mk (Kd.R_lower ho0 (below_size (by repeat (first | (with_reducible first | exact HB.out | apply below_alloc | apply pw_below_drewN | apply below_drew1 | refine below_set ?_ GE229.out | refine below_set ?_ GE234.out) | exact HB.out)))); have n1_ := Aside0.mk (blk_below (g := gb229) (o := .cells #[.int .i64 t226, .int .i64 t227] 37 (0, 0)) (by (with_reducible repeat (first | refine blk_drewN ?_ _ | refine blk_drew ?_ | refine blk_alloc ?_ _)); refine blk_far ?_ NB229_234.out _; (with_reducible repeat (first | refine blk_drewN ?_ _ | refine blk_drew ?_ | refine blk_alloc ?_ _)); refine blk_far ?_ NB229_234.out _; (with_reducible repeat (first | refine blk_drewN ?_ _ | refine blk_drew ?_ | refine blk_alloc ?_ _)); exact BK229.out) hb); have n2_ := Aside0.mk (blk_below (g := gb234) (o := .cells #[.int .i64 t231, .int .i64 t232] 37 (0, 0)) (by (with_reducible repeat (first | refine blk_drewN ?_ _ | refine blk_drew ?_ | refine blk_alloc ?_ _)); refine blk_put (cs := #[.int .i64 t231, .int .i64 0]) ?_ 1 _ rfl; (with_reducible repeat (first | refine blk_drewN ?_ _ | refine blk_drew ?_ | refine blk_alloc ?_ _)); refine blk_put (cs := #[.int .i64 0, .int .i64 0]) ?_ 0 _ rfl; (with_reducible repeat (first | refine blk_drewN ?_ _ | refine blk_drew ?_ | refine blk_alloc ?_ _)); exact BK234.out) hb); have n3_ := Aside0.mk (below_step (by repeat (first | (with_reducible first | exact HB.out | apply below_alloc | apply pw_below_drewN | apply below_drew1 | refine below_set ?_ GE229.out | refine below_set ?_ GE234.out) | exact HB.out)) hb); clear BK229; clear BK234; clear HB; have HO238 := n0_; have BK229 := n1_; have BK234 := n2_; have HB := n3_; clear n0_ n1_ n2_ n3_; (try clear hb); (try clear hb2); (try clear hk); (try clear hi); (try clear ho0)) | ((with_reducible refine gate_callee (f := 15) rfl ?_); refine goesL_ (some 77) rfl rfl Try.func15 (by kernel_rfl) rfl #[.int .i64 a1] rfl (by (try simp only [List.map_toArray, List.map_cons, List.map_nil]); first | done | rfl | (simp only [List.length_drop, List.length_take]; rfl) | (simp only [*]; rfl) | (simp [*]; done) | (simp [*]; (repeat' apply And.intro) <;> rfl)) ?_; (with_reducible refine (compassref01_Of.calls kj3 a1 t239 t240 _ A43.out).mono ?_); rintro e w58 ⟨v241, rfl, ho0, hb⟩; refine ⟨_, rfl, ?_⟩; have n0_ := Aside0.mk (Kd.R_elder' (by (with_reducible repeat (first | apply Kd.R_alloc | apply Kd.R_drewN | apply Kd.R_drew)); exact HO238.out) (Kd.R_base ho0) hb); have n1_ := Aside0.mk (Kd.R_lower (Kd.R_new' ho0 (Kd.R_lt (by (with_reducible repeat (first | apply Kd.R_alloc | apply Kd.R_drewN | apply Kd.R_drew)); exact HO238.out))) (below_size (by repeat (first | (with_reducible first | exact HB.out | apply below_alloc | apply pw_below_drewN | apply below_drew1 | refine below_set ?_ GE229.out | refine below_set ?_ GE234.out) | exact HB.out)))); have n2_ := Aside0.mk (blk_below (g := gb229) (o := .cells #[.int .i64 t226, .int .i64 t227] 37 (0, 0)) (by (with_reducible repeat (first | refine blk_drewN ?_ _ | refine blk_drew ?_ | refine blk_alloc ?_ _)); exact BK229.out) hb); have n3_ := Aside0.mk (blk_below (g := gb234) (o := .cells #[.int .i64 t231, .int .i64 t232] 37 (0, 0)) (by (with_reducible repeat (first | refine blk_drewN ?_ _ | refine blk_drew ?_ | refine blk_alloc ?_ _)); exact BK234.out) hb); have n4_ := Aside0.mk (below_step (by repeat (first | (with_reducible first | exact HB.out | apply below_alloc | apply pw_below_drewN | apply below_drew1 | refine below_set ?_ GE229.out | refine below_set ?_ GE234.out) | exact HB.out)) hb); clear HO238; clear BK229; clear BK234; clear HB; have HO238 := n0_; have HO242 := n1_; have BK229 := n2_; have BK234 := n3_; have HB := n4_; clear n0_ n1_ n2_ n3_ n4_; (try clear hb); (try clear hb2); (try clear hk); (try clear hi); (try clear ho0); obtain ⟨Ao59, co59, eo59⟩ := Kd.R_slice HO238.out; subst eo59; obtain ⟨Ao60, co60, eo60⟩ := Kd.R_slice HO242.out; subst eo60) | ((with_reducible refine gate_callee (f := 14) rfl ?_); refine goesL_ (some 78) rfl rfl Try.func14 (by kernel_rfl) rfl #[.agg #[.bool t235, .slice Ao59 t236.length co59], .agg #[.bool t239, .slice Ao60 t240.length co60]] rfl (by (try simp only [List.map_toArray, List.map_cons, List.map_nil]); first | done | rfl | (simp only [List.length_drop, List.length_take]; rfl) | (simp only [*]; rfl) | (simp [*]; done) | (simp [*]; (repeat' apply And.intro) <;> rfl)) ?_; (with_reducible refine (compassref01_Times.calls kj3 t235 _ _ t236 t239 _ _ t240 t243 t244 _ ?side1 ?side2 ?side3 ?side4 A44.out).mono ?_); (case side1 => repeat (first | exact (Kd.R_reads' HO238.out).2.2 | (with_reducible refine Kd.C_alloc ?_ _) | (with_reducible refine Kd.C_drewN ?_ _) | (with_reducible refine Kd.C_drew ?_))); (case side2 => exact (Kd.R_reads' HO238.out).2.1); (case side3 => repeat (first | exact (Kd.R_reads' HO242.out).2.2 | (with_reducible refine Kd.C_alloc ?_ _) | (with_reducible refine Kd.C_drewN ?_ _) | (with_reducible refine Kd.C_drew ?_))); (case side4 => exact (Kd.R_reads' HO242.out).2.1); rintro e w61 ⟨v245, rfl, ho0, hb⟩; refine ⟨_, rfl, ?_⟩; have n0_ := Aside0.mk (Kd.R_elder' (by (with_reducible repeat (first | apply Kd.R_alloc | apply Kd.R_drewN | apply Kd.R_drew)); exact HO238.out) (Kd.R_base ho0) hb); have n1_ := Aside0.mk (Kd.R_elder' (by (with_reducible repeat (first | apply Kd.R_alloc | apply Kd.R_drewN | apply Kd.R_drew)); exact HO242.out) (Kd.R_base ho0) hb); have n2_ := Aside0.mk (Kd.R_lower (Kd.R_new' (Kd.R_new' ho0 (Kd.R_lt (by (with_reducible repeat (first | apply Kd.R_alloc | apply Kd.R_drewN | apply Kd.R_drew)); exact HO238.out))) (Kd.R_lt (by (with_reducible repeat (first | apply Kd.R_alloc | apply Kd.R_drewN | apply Kd.R_drew)); exact HO242.out))) (below_size (by repeat (first | (with_reducible first | exact HB.out | apply below_alloc | apply pw_below_drewN | apply below_drew1 | refine below_set ?_ GE229.out | refine below_set ?_ GE234.out) | exact HB.out)))); have n3_ := Aside0.mk (blk_below (g := gb229) (o := .cells #[.int .i64 t226, .int .i64 t227] 37 (0, 0)) (by (with_reducible repeat (first | refine blk_drewN ?_ _ | refine blk_drew ?_ | refine blk_alloc ?_ _)); exact BK229.out) hb); have n4_ := Aside0.mk (blk_below (g := gb234) (o := .cells #[.int .i64 t231, .int .i64 t232] 37 (0, 0)) (by (with_reducible repeat (first | refine blk_drewN ?_ _ | refine blk_drew ?_ | refine blk_alloc ?_ _)); exact BK234.out) hb); have n5_ := Aside0.mk (below_step (by repeat (first | (with_reducible first | exact HB.out | apply below_alloc | apply pw_below_drewN | apply below_drew1 | refine below_set ?_ GE229.out | refine below_set ?_ GE234.out) | exact HB.out)) hb); clear HO238; clear HO242; clear BK229; clear BK234; clear HB; have HO238 := n0_; have HO242 := n1_; have HO246 := n2_; have BK229 := n3_; have BK234 := n4_; have HB := n5_; clear n0_ n1_ n2_ n3_ n4_ n5_; (try clear hb); (try clear hb2); (try clear hk); (try clear hi); (try clear ho0)) | ((with_reducible refine gate_dst (N := 9) rfl ?_); refine box_event ?hg (N := 9) ?hd (cs := #[.bool false, .slice none 0 0]) (t := 31) ?hr ?_; (case hd => rfl); (case hg => rfl); (case hr => first | (go_simp; done) | (go_simp; rfl)); intro gb247 hg w62 hbox hb; have n0_ := Aside0.mk (Kd.R_below (by (with_reducible repeat (first | apply Kd.R_alloc | apply Kd.R_drewN | apply Kd.R_drew)); exact HO238.out) hb); have n1_ := Aside0.mk (Kd.R_below (by (with_reducible repeat (first | apply Kd.R_alloc | apply Kd.R_drewN | apply Kd.R_drew)); exact HO242.out) hb); have n2_ := Aside0.mk (Kd.R_below (by (with_reducible repeat (first | apply Kd.R_alloc | apply Kd.R_drewN | apply Kd.R_drew)); exact HO246.out) hb); have n3_ := Aside0.mk (blk_below (g := gb229) (o := .cells #[.int .i64 t226, .int .i64 t227] 37 (0, 0)) (by (with_reducible repeat (first | refine blk_drewN ?_ _ | refine blk_drew ?_ | refine blk_alloc ?_ _)); exact BK229.out) hb); have n4_ := Aside0.mk (blk_below (g := gb234) (o := .cells #[.int .i64 t231, .int .i64 t232] 37 (0, 0)) (by (with_reducible repeat (first | refine blk_drewN ?_ _ | refine blk_drew ?_ | refine blk_alloc ?_ _)); exact BK234.out) hb); have n5_ := Aside0.mk (below_step (by repeat (first | (with_reducible first | exact HB.out | apply below_alloc | apply pw_below_drewN | apply below_drew1 | refine below_set ?_ GE229.out | refine below_set ?_ GE234.out) | exact HB.out)) hb); have n6_ := Aside0.mk (hbox); have n7_ := Aside0.mk ((by rw [hg]; exact (below_size (by repeat (first | (with_reducible first | exact HB.out | apply below_alloc | apply pw_below_drewN | apply below_drew1 | refine below_set ?_ GE229.out | refine below_set ?_ GE234.out) | exact HB.out))) : w.heap.size ≤ gb247)); have n8_ := Aside0.mk ((by rw [hg]; exact (below_size (by repeat (first | (with_reducible first | exact HB.out | apply below_alloc | apply pw_below_drewN | apply below_drew1 | refine below_set ?_ GE229.out | refine below_set ?_ GE234.out) | exact HB.out))) : w.heap.size ≤ gb247)); have n9_ := Aside0.mk ((by rw [hg]; exact Nat.ne_of_lt (blk_lt (g := gb229) (o := .cells #[.int .i64 t226, .int .i64 t227] 37 (0, 0)) (by (with_reducible repeat (first | refine blk_drewN ?_ _ | refine blk_drew ?_ | refine blk_alloc ?_ _)); exact BK229.out)) : gb229 ≠ gb247)); have n10_ := Aside0.mk ((by rw [hg]; exact Nat.ne_of_gt (blk_lt (g := gb229) (o := .cells #[.int .i64 t226, .int .i64 t227] 37 (0, 0)) (by (with_reducible repeat (first | refine blk_drewN ?_ _ | refine blk_drew ?_ | refine blk_alloc ?_ _)); exact BK229.out)) : gb247 ≠ gb229)); have n11_ := Aside0.mk ((by rw [hg]; exact Nat.ne_of_lt (blk_lt (g := gb234) (o := .cells #[.int .i64 t231, .int .i64 t232] 37 (0, 0)) (by (with_reducible repeat (first | refine blk_drewN ?_ _ | refine blk_drew ?_ | refine blk_alloc ?_ _)); exact BK234.out)) : gb234 ≠ gb247)); have n12_ := Aside0.mk ((by rw [hg]; exact Nat.ne_of_gt (blk_lt (g := gb234) (o := .cells #[.int .i64 t231, .int .i64 t232] 37 (0, 0)) (by (with_reducible repeat (first | refine blk_drewN ?_ _ | refine blk_drew ?_ | refine blk_alloc ?_ _)); exact BK234.out)) : gb247 ≠ gb234)); clear HO238; clear HO242; clear HO246; clear BK229; clear BK234; clear HB; have HO238 := n0_; have HO242 := n1_; have HO246 := n2_; have BK229 := n3_; have BK234 := n4_; have HB := n5_; have BK247 := n6_; have GW247 := n7_; have GE247 := n8_; have NB229_247 := n9_; have NB247_229 := n10_; have NB234_247 := n11_; have NB247_234 := n12_; clear n0_ n1_ n2_ n3_ n4_ n5_ n6_ n7_ n8_ n9_ n10_ n11_ n12_; clear hb hbox hg; have hnb63 := NB247_229.out; have hnc63 := NB229_247.out; have hnb64 := NB247_234.out; have hnc64 := NB234_247.out; have hcz65_0 : w62.cell? ⟨gb247, 0, none⟩ = some (.bool false) := (blk_cell BK247.out 0).trans rfl; have hcz65_1 : w62.cell? ⟨gb247, 1, none⟩ = some (.slice none 0 0) := (blk_cell BK247.out 1).trans rfl; have hfz65_0 := blk_frozen BK247.out 0; have hfz65_1 := blk_frozen BK247.out 1; obtain ⟨Ao66, co66, eo66⟩ := Kd.R_slice HO246.out; subst eo66))
                  have n0_ : Aside0 (Kd.R (Kd.int .u64) 22 ((w62.setCell ⟨gb247, 0, none⟩ (.bool t243)).setCell ⟨gb247, 1, none⟩ (.slice Ao66 t244.length co66)) w.heap.size (fun k_ => some k_ ≠ (.slice Ao60 t240.length co60 : Value).ownBlock ∧ some k_ ≠ (.slice Ao66 t244.length co66 : Value).ownBlock) (.slice Ao59 t236.length co59) t236) := ⟨by (with_reducible repeat (first | apply Kd.R_alloc | apply Kd.R_drewN | apply Kd.R_drew)); exact Kd.R_mono (Kd.R_far (p := ⟨gb247, 1, none⟩) (Kd.R_far (p := ⟨gb247, 0, none⟩) (Kd.R_types HO238.out BK247.out (by decide)) (fun _ hk => hk.2) (.bool t243)) (fun _ hk => hk.2) (.slice Ao66 t244.length co66)) (fun _ hk => ⟨hk.1.1.2, hk.1.2⟩)⟩
                  have n1_ : Aside0 (Kd.R (Kd.int .u64) 22 ((w62.setCell ⟨gb247, 0, none⟩ (.bool t243)).setCell ⟨gb247, 1, none⟩ (.slice Ao66 t244.length co66)) w.heap.size (fun k_ => some k_ ≠ (.slice Ao59 t236.length co59 : Value).ownBlock ∧ some k_ ≠ (.slice Ao66 t244.length co66 : Value).ownBlock) (.slice Ao60 t240.length co60) t240) := ⟨by (with_reducible repeat (first | apply Kd.R_alloc | apply Kd.R_drewN | apply Kd.R_drew)); exact Kd.R_mono (Kd.R_far (p := ⟨gb247, 1, none⟩) (Kd.R_far (p := ⟨gb247, 0, none⟩) (Kd.R_types HO242.out BK247.out (by decide)) (fun _ hk => hk.2) (.bool t243)) (fun _ hk => hk.2) (.slice Ao66 t244.length co66)) (fun _ hk => ⟨hk.1.1.2, hk.1.2⟩)⟩
                  have n2_ : Aside0 (Kd.R (Kd.int .u64) 22 ((w62.setCell ⟨gb247, 0, none⟩ (.bool t243)).setCell ⟨gb247, 1, none⟩ (.slice Ao66 t244.length co66)) w.heap.size (fun k_ => some k_ ≠ (.slice Ao59 t236.length co59 : Value).ownBlock ∧ some k_ ≠ (.slice Ao60 t240.length co60 : Value).ownBlock) (.slice Ao66 t244.length co66) t244) := ⟨by (with_reducible repeat (first | apply Kd.R_alloc | apply Kd.R_drewN | apply Kd.R_drew)); exact Kd.R_mono (Kd.R_far (p := ⟨gb247, 1, none⟩) (Kd.R_far (p := ⟨gb247, 0, none⟩) (Kd.R_types HO246.out BK247.out (by decide)) (fun _ hk => hk.2) (.bool t243)) (fun _ hk => hk.2) (.slice Ao66 t244.length co66)) (fun _ hk => ⟨hk.1.1.2, hk.1.2⟩)⟩
                  have n3_ : Aside0 (((w62.setCell ⟨gb247, 0, none⟩ (.bool t243)).setCell ⟨gb247, 1, none⟩ (.slice Ao66 t244.length co66)).heap[gb229]? = some (.cells #[.int .i64 t226, .int .i64 t227] 37 (0, 0))) := ⟨by (with_reducible repeat (first | refine blk_drewN ?_ _ | refine blk_drew ?_ | refine blk_alloc ?_ _)); refine blk_far ?_ NB229_247.out _; (with_reducible repeat (first | refine blk_drewN ?_ _ | refine blk_drew ?_ | refine blk_alloc ?_ _)); refine blk_far ?_ NB229_247.out _; (with_reducible repeat (first | refine blk_drewN ?_ _ | refine blk_drew ?_ | refine blk_alloc ?_ _)); exact BK229.out⟩
                  have n4_ : Aside0 (((w62.setCell ⟨gb247, 0, none⟩ (.bool t243)).setCell ⟨gb247, 1, none⟩ (.slice Ao66 t244.length co66)).heap[gb234]? = some (.cells #[.int .i64 t231, .int .i64 t232] 37 (0, 0))) := ⟨by (with_reducible repeat (first | refine blk_drewN ?_ _ | refine blk_drew ?_ | refine blk_alloc ?_ _)); refine blk_far ?_ NB234_247.out _; (with_reducible repeat (first | refine blk_drewN ?_ _ | refine blk_drew ?_ | refine blk_alloc ?_ _)); refine blk_far ?_ NB234_247.out _; (with_reducible repeat (first | refine blk_drewN ?_ _ | refine blk_drew ?_ | refine blk_alloc ?_ _)); exact BK234.out⟩
                  have n5_ : Aside0 (((w62.setCell ⟨gb247, 0, none⟩ (.bool t243)).setCell ⟨gb247, 1, none⟩ (.slice Ao66 t244.length co66)).heap[gb247]? = some (.cells #[.bool t243, .slice Ao66 t244.length co66] 31 (0, 0))) := ⟨by (with_reducible repeat (first | refine blk_drewN ?_ _ | refine blk_drew ?_ | refine blk_alloc ?_ _)); refine blk_put (cs := #[.bool t243, .slice none 0 0]) ?_ 1 _ rfl; (with_reducible repeat (first | refine blk_drewN ?_ _ | refine blk_drew ?_ | refine blk_alloc ?_ _)); refine blk_put (cs := #[.bool false, .slice none 0 0]) ?_ 0 _ rfl; (with_reducible repeat (first | refine blk_drewN ?_ _ | refine blk_drew ?_ | refine blk_alloc ?_ _)); exact BK247.out⟩
                  have n6_ : Aside0 (Below w.heap.size w ((w62.setCell ⟨gb247, 0, none⟩ (.bool t243)).setCell ⟨gb247, 1, none⟩ (.slice Ao66 t244.length co66))) := ⟨by repeat (first | (with_reducible first | exact HB.out | apply below_alloc | apply pw_below_drewN | apply below_drew1 | refine below_set ?_ GE229.out | refine below_set ?_ GE234.out | refine below_set ?_ GE247.out) | exact HB.out)⟩
                  (try clear HO238)
                  (try clear HO242)
                  (try clear HO246)
                  (try clear BK229)
                  (try clear BK234)
                  (try clear BK247)
                  (try clear HB)
                  generalize ((w62.setCell ⟨gb247, 0, none⟩ (.bool t243)).setCell ⟨gb247, 1, none⟩ (.slice Ao66 t244.length co66)) = w67 at n0_ n1_ n2_ n3_ n4_ n5_ n6_ ⊢
                  have HO238 := n0_
                  have HO242 := n1_
                  have HO246 := n2_
                  have BK229 := n3_
                  have BK234 := n4_
                  have BK247 := n5_
                  have HB := n6_
                  clear n0_ n1_ n2_ n3_ n4_ n5_ n6_
                  have n0_ := Aside0.mk (Kd.R_drew HO238.out)
                  have n1_ := Aside0.mk (Kd.R_drew HO242.out)
                  have n2_ := Aside0.mk (Kd.R_drew HO246.out)
                  have n3_ := Aside0.mk (blk_drew BK229.out)
                  have n4_ := Aside0.mk (blk_drew BK234.out)
                  have n5_ := Aside0.mk (blk_drew BK247.out)
                  have n6_ := Aside0.mk (below_drew1 HB.out)
                  clear HO238
                  clear HO242
                  clear HO246
                  clear BK229
                  clear BK234
                  clear BK247
                  clear HB
                  have HO238 := n0_
                  have HO242 := n1_
                  have HO246 := n2_
                  have BK229 := n3_
                  have BK234 := n4_
                  have BK247 := n5_
                  have HB := n6_
                  clear n0_ n1_ n2_ n3_ n4_ n5_ n6_
                  refine start_ (n := 8) (S := fun w' => w'.cell? ⟨gb234, 0, none⟩ = some (.int .i64 t231) ∧ w'.cell? ⟨gb234, 1, none⟩ = some (.int .i64 t232)) (ds := []) #[false, false, false, false, false, false, false, false] (by kernel_rfl) rfl rfl ⟨(blk_cell BK234.out 0).trans rfl, (blk_cell BK234.out 1).trans rfl⟩ (fun hHeld => ?_); refine with_tabW compasslaw01_SafeRatios.tab10 compasslaw01_SafeRatios.bits10 (fun HT_ HW_ => ?_)
                  generalize w67.drew = w68 at HO238 HO242 HO246 BK229 BK234 BK247 HB hHeld ⊢
                  refine pure_ (i := 0) (N := some 79) (v := ?_) (a' := ?_) #[true, false, false, false, false, false, false, false] rfl rfl (any_of HT_.out (by kernel_rfl)) (fun _ _ _ h => h) (Or.inl ⟨by rfl, ?_⟩) ?_ ?_
                  rotate_left
                  · intro w'
                    go_simp
                    with_reducible rfl
                  rotate_left
                  · simp only [Act.put, List.setIfInBounds_toArray, List.set_cons_zero, List.set_cons_succ, i64_w, i32_w]
                    rfl
                  refine pure_ (i := 2) (N := some 81) (v := ?_) (a' := ?_) #[true, false, true, false, false, false, false, false] rfl rfl (any_of HT_.out (by kernel_rfl)) (fun _ _ _ h => h) (Or.inl ⟨by rfl, ?_⟩) ?_ ?_
                  rotate_left
                  · intro w'
                    go_simp
                    with_reducible rfl
                  rotate_left
                  · simp only [Act.put, List.setIfInBounds_toArray, List.set_cons_zero, List.set_cons_succ, i64_w, i32_w]
                    rfl
                  refine take_ (i := 3) (N := some 82) (v := ?_) (a' := ?_) #[true, false, true, true, false, false, false, false] rfl rfl (take_ofW HT_.out HW_.out (by kernel_rfl)) (fun _ _ _ h => h) (Or.inl ⟨by rfl, ?_⟩) hHeld ?_ ?_
                  rotate_left
                  · rintro w' ⟨s0, s1⟩
                    go_simp
                    with_reducible rfl
                  rotate_left
                  · simp only [Act.put, List.setIfInBounds_toArray, List.set_cons_zero, List.set_cons_succ, i64_w, i32_w]
                    rfl
                  refine join_ (σ := Value × Value × Value × Nat) 1 #[true, true, true, true, true, true, true, false] (fun s_ => [(80, .agg #[.bool t248, s_.1]), (83, .agg #[.bool t252, s_.2.1]), (84, .agg #[.bool t256, s_.2.2.1]), (10, .pointer (some ⟨s_.2.2.2, 0, none⟩))]) (fun s_ w' => (w'.cell? ⟨gb234, 0, none⟩ = some (.int .i64 t231) ∧ w'.cell? ⟨gb234, 1, none⟩ = some (.int .i64 t232)) ∧ (Kd.R (Kd.int .u64) 22 w' w.heap.size (fun k_ => some k_ ≠ (.slice Ao60 t240.length co60 : Value).ownBlock ∧ some k_ ≠ (.slice Ao66 t244.length co66 : Value).ownBlock ∧ some k_ ≠ (s_.1 : Value).ownBlock ∧ some k_ ≠ (s_.2.1 : Value).ownBlock ∧ some k_ ≠ (s_.2.2.1 : Value).ownBlock) (.slice Ao59 t236.length co59) t236) ∧ (Kd.R (Kd.int .u64) 22 w' w.heap.size (fun k_ => some k_ ≠ (.slice Ao59 t236.length co59 : Value).ownBlock ∧ some k_ ≠ (.slice Ao66 t244.length co66 : Value).ownBlock ∧ some k_ ≠ (s_.1 : Value).ownBlock ∧ some k_ ≠ (s_.2.1 : Value).ownBlock ∧ some k_ ≠ (s_.2.2.1 : Value).ownBlock) (.slice Ao60 t240.length co60) t240) ∧ (Kd.R (Kd.int .u64) 22 w' w.heap.size (fun k_ => some k_ ≠ (.slice Ao59 t236.length co59 : Value).ownBlock ∧ some k_ ≠ (.slice Ao60 t240.length co60 : Value).ownBlock ∧ some k_ ≠ (s_.1 : Value).ownBlock ∧ some k_ ≠ (s_.2.1 : Value).ownBlock ∧ some k_ ≠ (s_.2.2.1 : Value).ownBlock) (.slice Ao66 t244.length co66) t244) ∧ (Kd.R (Kd.int .u64) 22 w' w.heap.size (fun k_ => some k_ ≠ (.slice Ao59 t236.length co59 : Value).ownBlock ∧ some k_ ≠ (.slice Ao60 t240.length co60 : Value).ownBlock ∧ some k_ ≠ (.slice Ao66 t244.length co66 : Value).ownBlock ∧ some k_ ≠ (s_.2.1 : Value).ownBlock ∧ some k_ ≠ (s_.2.2.1 : Value).ownBlock) s_.1 t249) ∧ (Kd.R (Kd.int .u64) 22 w' w.heap.size (fun k_ => some k_ ≠ (.slice Ao59 t236.length co59 : Value).ownBlock ∧ some k_ ≠ (.slice Ao60 t240.length co60 : Value).ownBlock ∧ some k_ ≠ (.slice Ao66 t244.length co66 : Value).ownBlock ∧ some k_ ≠ (s_.1 : Value).ownBlock ∧ some k_ ≠ (s_.2.2.1 : Value).ownBlock) s_.2.1 t253) ∧ (Kd.R (Kd.int .u64) 22 w' w.heap.size (fun k_ => some k_ ≠ (.slice Ao59 t236.length co59 : Value).ownBlock ∧ some k_ ≠ (.slice Ao60 t240.length co60 : Value).ownBlock ∧ some k_ ≠ (.slice Ao66 t244.length co66 : Value).ownBlock ∧ some k_ ≠ (s_.1 : Value).ownBlock ∧ some k_ ≠ (s_.2.1 : Value).ownBlock) s_.2.2.1 t257) ∧ (w'.heap[gb229]? = some (.cells #[.int .i64 t226, .int .i64 t227] 37 (0, 0))) ∧ (w'.heap[gb234]? = some (.cells #[.int .i64 t231, .int .i64 t232] 37 (0, 0))) ∧ (w'.heap[gb247]? = some (.cells #[.bool t243, .slice Ao66 t244.length co66] 31 (0, 0))) ∧ (w'.heap[s_.2.2.2]? = some (.cells #[.bool false, .slice none 0 0] 31 (0, 0))) ∧ (w.heap.size ≤ s_.2.2.2) ∧ (w.heap.size ≤ s_.2.2.2) ∧ (gb229 ≠ s_.2.2.2) ∧ (s_.2.2.2 ≠ gb229) ∧ (gb234 ≠ s_.2.2.2) ∧ (s_.2.2.2 ≠ gb234) ∧ (gb247 ≠ s_.2.2.2) ∧ (s_.2.2.2 ≠ gb247) ∧ (Below w.heap.size w w')) ?_ ?_
                  rotate_left
                  · intro hCont
                    refine two_ (i := 1) (j := 6) (Ni := some 80) (Nj := some 10) #[true, true, true, true, false, false, false, false] #[true, false, true, true, false, false, true, false] rfl rfl rfl rfl (two_of HT_.out (by kernel_rfl)) (by decide) (by decide) (fun K hK => ?_) (fun K hK => ?_)
                    · skip
                      refine goes_ Try.func15 (by kernel_rfl) rfl #[.int .i64 a0] (by rfl) rfl rfl (by (try simp only [List.map_toArray, List.map_cons, List.map_nil]); first | done | rfl | (simp only [List.length_drop, List.length_take]; rfl) | (simp only [*]; rfl) | (simp [*]; done) | (simp [*]; (repeat' apply And.intro) <;> rfl)) ?_
                      with_reducible refine (compassref01_Of.calls kj3 a0 t248 t249 _ A45.out).mono ?_
                      rintro e w69 ⟨v250, rfl, ho0, hb⟩
                      refine ⟨_, rfl, ?_⟩
                      have n0_ := Aside0.mk (Kd.R_elder' (by (with_reducible repeat (first | apply Kd.R_alloc | apply Kd.R_drewN | apply Kd.R_drew)); exact HO238.out) (Kd.R_base ho0) hb)
                      have n1_ := Aside0.mk (Kd.R_elder' (by (with_reducible repeat (first | apply Kd.R_alloc | apply Kd.R_drewN | apply Kd.R_drew)); exact HO242.out) (Kd.R_base ho0) hb)
                      have n2_ := Aside0.mk (Kd.R_elder' (by (with_reducible repeat (first | apply Kd.R_alloc | apply Kd.R_drewN | apply Kd.R_drew)); exact HO246.out) (Kd.R_base ho0) hb)
                      have n3_ := Aside0.mk (Kd.R_lower (Kd.R_new' (Kd.R_new' (Kd.R_new' ho0 (Kd.R_lt (by (with_reducible repeat (first | apply Kd.R_alloc | apply Kd.R_drewN | apply Kd.R_drew)); exact HO238.out))) (Kd.R_lt (by (with_reducible repeat (first | apply Kd.R_alloc | apply Kd.R_drewN | apply Kd.R_drew)); exact HO242.out))) (Kd.R_lt (by (with_reducible repeat (first | apply Kd.R_alloc | apply Kd.R_drewN | apply Kd.R_drew)); exact HO246.out))) (below_size (by repeat (first | (with_reducible first | exact HB.out | apply below_alloc | apply pw_below_drewN | apply below_drew1 | refine below_set ?_ GE229.out | refine below_set ?_ GE234.out | refine below_set ?_ GE247.out) | exact HB.out))))
                      have n4_ := Aside0.mk (blk_below (g := gb229) (o := .cells #[.int .i64 t226, .int .i64 t227] 37 (0, 0)) (by (with_reducible repeat (first | refine blk_drewN ?_ _ | refine blk_drew ?_ | refine blk_alloc ?_ _)); exact BK229.out) hb)
                      have n5_ := Aside0.mk (blk_below (g := gb234) (o := .cells #[.int .i64 t231, .int .i64 t232] 37 (0, 0)) (by (with_reducible repeat (first | refine blk_drewN ?_ _ | refine blk_drew ?_ | refine blk_alloc ?_ _)); exact BK234.out) hb)
                      have n6_ := Aside0.mk (blk_below (g := gb247) (o := .cells #[.bool t243, .slice Ao66 t244.length co66] 31 (0, 0)) (by (with_reducible repeat (first | refine blk_drewN ?_ _ | refine blk_drew ?_ | refine blk_alloc ?_ _)); exact BK247.out) hb)
                      have n7_ := Aside0.mk (below_step (by repeat (first | (with_reducible first | exact HB.out | apply below_alloc | apply pw_below_drewN | apply below_drew1 | refine below_set ?_ GE229.out | refine below_set ?_ GE234.out | refine below_set ?_ GE247.out) | exact HB.out)) hb)
                      clear HO238
                      clear HO242
                      clear HO246
                      clear BK229
                      clear BK234
                      clear BK247
                      clear HB
                      have HO238 := n0_
                      have HO242 := n1_
                      have HO246 := n2_
                      have HO251 := n3_
                      have BK229 := n4_
                      have BK234 := n5_
                      have BK247 := n6_
                      have HB := n7_
                      clear n0_ n1_ n2_ n3_ n4_ n5_ n6_ n7_
                      (try clear hb)
                      (try clear hb2)
                      (try clear hk)
                      (try clear hi)
                      (try clear ho0)
                      refine hK.out _ _ ⟨(blk_cell BK234.out 0).trans rfl, (blk_cell BK234.out 1).trans rfl⟩ (fun hHeld => ?_)
                      clear hK K
                      refine norm_ (a' := ?_) ?_ ?_
                      rotate_left
                      · show Act.put _ (some 80) _ = _
                        simp only [Act.put, List.setIfInBounds_toArray, List.set_cons_zero, List.set_cons_succ, i64_w, i32_w]
                        rfl
                      refine two_ (i := 4) (j := 6) (Ni := some 83) (Nj := some 10) #[true, true, true, true, true, false, false, false] #[true, true, true, true, false, false, true, false] rfl rfl rfl rfl (two_of HT_.out (by kernel_rfl)) (by decide) (by decide) (fun K hK => ?_) (fun K hK => ?_)
                      · skip
                        refine goes_ Try.func15 (by kernel_rfl) rfl #[.int .i64 t232] (by rfl) rfl rfl (by (try simp only [List.map_toArray, List.map_cons, List.map_nil]); first | done | rfl | (simp only [List.length_drop, List.length_take]; rfl) | (simp only [*]; rfl) | (simp [*]; done) | (simp [*]; (repeat' apply And.intro) <;> rfl)) ?_
                        with_reducible refine (compassref01_Of.calls kj3 t232 t252 t253 _ A46.out).mono ?_
                        rintro e w70 ⟨v254, rfl, ho0, hb⟩
                        refine ⟨_, rfl, ?_⟩
                        have n0_ := Aside0.mk (Kd.R_elder' (by (with_reducible repeat (first | apply Kd.R_alloc | apply Kd.R_drewN | apply Kd.R_drew)); exact HO238.out) (Kd.R_base ho0) hb)
                        have n1_ := Aside0.mk (Kd.R_elder' (by (with_reducible repeat (first | apply Kd.R_alloc | apply Kd.R_drewN | apply Kd.R_drew)); exact HO242.out) (Kd.R_base ho0) hb)
                        have n2_ := Aside0.mk (Kd.R_elder' (by (with_reducible repeat (first | apply Kd.R_alloc | apply Kd.R_drewN | apply Kd.R_drew)); exact HO246.out) (Kd.R_base ho0) hb)
                        have n3_ := Aside0.mk (Kd.R_elder' (by (with_reducible repeat (first | apply Kd.R_alloc | apply Kd.R_drewN | apply Kd.R_drew)); exact HO251.out) (Kd.R_base ho0) hb)
                        have n4_ := Aside0.mk (Kd.R_lower (Kd.R_new' (Kd.R_new' (Kd.R_new' (Kd.R_new' ho0 (Kd.R_lt (by (with_reducible repeat (first | apply Kd.R_alloc | apply Kd.R_drewN | apply Kd.R_drew)); exact HO238.out))) (Kd.R_lt (by (with_reducible repeat (first | apply Kd.R_alloc | apply Kd.R_drewN | apply Kd.R_drew)); exact HO242.out))) (Kd.R_lt (by (with_reducible repeat (first | apply Kd.R_alloc | apply Kd.R_drewN | apply Kd.R_drew)); exact HO246.out))) (Kd.R_lt (by (with_reducible repeat (first | apply Kd.R_alloc | apply Kd.R_drewN | apply Kd.R_drew)); exact HO251.out))) (below_size (by repeat (first | (with_reducible first | exact HB.out | apply below_alloc | apply pw_below_drewN | apply below_drew1 | refine below_set ?_ GE229.out | refine below_set ?_ GE234.out | refine below_set ?_ GE247.out) | exact HB.out))))
                        have n5_ := Aside0.mk (blk_below (g := gb229) (o := .cells #[.int .i64 t226, .int .i64 t227] 37 (0, 0)) (by (with_reducible repeat (first | refine blk_drewN ?_ _ | refine blk_drew ?_ | refine blk_alloc ?_ _)); exact BK229.out) hb)
                        have n6_ := Aside0.mk (blk_below (g := gb234) (o := .cells #[.int .i64 t231, .int .i64 t232] 37 (0, 0)) (by (with_reducible repeat (first | refine blk_drewN ?_ _ | refine blk_drew ?_ | refine blk_alloc ?_ _)); exact BK234.out) hb)
                        have n7_ := Aside0.mk (blk_below (g := gb247) (o := .cells #[.bool t243, .slice Ao66 t244.length co66] 31 (0, 0)) (by (with_reducible repeat (first | refine blk_drewN ?_ _ | refine blk_drew ?_ | refine blk_alloc ?_ _)); exact BK247.out) hb)
                        have n8_ := Aside0.mk (below_step (by repeat (first | (with_reducible first | exact HB.out | apply below_alloc | apply pw_below_drewN | apply below_drew1 | refine below_set ?_ GE229.out | refine below_set ?_ GE234.out | refine below_set ?_ GE247.out) | exact HB.out)) hb)
                        clear HO238
                        clear HO242
                        clear HO246
                        clear HO251
                        clear BK229
                        clear BK234
                        clear BK247
                        clear HB
                        have HO238 := n0_
                        have HO242 := n1_
                        have HO246 := n2_
                        have HO251 := n3_
                        have HO255 := n4_
                        have BK229 := n5_
                        have BK234 := n6_
                        have BK247 := n7_
                        have HB := n8_
                        clear n0_ n1_ n2_ n3_ n4_ n5_ n6_ n7_ n8_
                        (try clear hb)
                        (try clear hb2)
                        (try clear hk)
                        (try clear hi)
                        (try clear ho0)
                        obtain ⟨Ao71, co71, eo71⟩ := Kd.R_slice HO251.out
                        (first | subst eo71 | (injection eo71 with f1_ f2_ f3_; have f4_ := f1_.symm; have f5_ := f3_.symm; clear f1_ f2_ f3_; subst f4_; subst f5_))
                        obtain ⟨Ao72, co72, eo72⟩ := Kd.R_slice HO255.out
                        (first | subst eo72 | (injection eo72 with f1_ f2_ f3_; have f4_ := f1_.symm; have f5_ := f3_.symm; clear f1_ f2_ f3_; subst f4_; subst f5_))
                        refine hK.out _ _ ⟨(blk_cell BK234.out 0).trans rfl, (blk_cell BK234.out 1).trans rfl⟩ (fun hHeld => ?_)
                        clear hK K
                        refine norm_ (a' := ?_) ?_ ?_
                        rotate_left
                        · show Act.put _ (some 83) _ = _
                          simp only [Act.put, List.setIfInBounds_toArray, List.set_cons_zero, List.set_cons_succ, i64_w, i32_w]
                          rfl
                        refine two_ (i := 5) (j := 6) (Ni := some 84) (Nj := some 10) #[true, true, true, true, true, true, false, false] #[true, true, true, true, true, false, true, false] rfl rfl rfl rfl (two_of HT_.out (by kernel_rfl)) (by decide) (by decide) (fun K hK => ?_) (fun K hK => ?_)
                        · skip
                          refine goes_ Try.func14 (by kernel_rfl) rfl #[.agg #[.bool t248, .slice Ao71 t249.length co71], .agg #[.bool t252, .slice Ao72 t253.length co72]] (by rfl) rfl rfl (by (try simp only [List.map_toArray, List.map_cons, List.map_nil]); first | done | rfl | (simp only [List.length_drop, List.length_take]; rfl) | (simp only [*]; rfl) | (simp [*]; done) | (simp [*]; (repeat' apply And.intro) <;> rfl)) ?_
                          with_reducible refine (compassref01_Times.calls kj3 t248 _ _ t249 t252 _ _ t253 t256 t257 _ ?side1 ?side2 ?side3 ?side4 A47.out).mono ?_
                          (case side1 => repeat (first | exact (Kd.R_reads' HO251.out).2.2 | (with_reducible refine Kd.C_alloc ?_ _) | (with_reducible refine Kd.C_drewN ?_ _) | (with_reducible refine Kd.C_drew ?_)))
                          (case side2 => exact (Kd.R_reads' HO251.out).2.1)
                          (case side3 => repeat (first | exact (Kd.R_reads' HO255.out).2.2 | (with_reducible refine Kd.C_alloc ?_ _) | (with_reducible refine Kd.C_drewN ?_ _) | (with_reducible refine Kd.C_drew ?_)))
                          (case side4 => exact (Kd.R_reads' HO255.out).2.1)
                          rintro e w73 ⟨v258, rfl, ho0, hb⟩
                          refine ⟨_, rfl, ?_⟩
                          have n0_ := Aside0.mk (Kd.R_elder' (by (with_reducible repeat (first | apply Kd.R_alloc | apply Kd.R_drewN | apply Kd.R_drew)); exact HO238.out) (Kd.R_base ho0) hb)
                          have n1_ := Aside0.mk (Kd.R_elder' (by (with_reducible repeat (first | apply Kd.R_alloc | apply Kd.R_drewN | apply Kd.R_drew)); exact HO242.out) (Kd.R_base ho0) hb)
                          have n2_ := Aside0.mk (Kd.R_elder' (by (with_reducible repeat (first | apply Kd.R_alloc | apply Kd.R_drewN | apply Kd.R_drew)); exact HO246.out) (Kd.R_base ho0) hb)
                          have n3_ := Aside0.mk (Kd.R_elder' (by (with_reducible repeat (first | apply Kd.R_alloc | apply Kd.R_drewN | apply Kd.R_drew)); exact HO251.out) (Kd.R_base ho0) hb)
                          have n4_ := Aside0.mk (Kd.R_elder' (by (with_reducible repeat (first | apply Kd.R_alloc | apply Kd.R_drewN | apply Kd.R_drew)); exact HO255.out) (Kd.R_base ho0) hb)
                          have n5_ := Aside0.mk (Kd.R_lower (Kd.R_new' (Kd.R_new' (Kd.R_new' (Kd.R_new' (Kd.R_new' ho0 (Kd.R_lt (by (with_reducible repeat (first | apply Kd.R_alloc | apply Kd.R_drewN | apply Kd.R_drew)); exact HO238.out))) (Kd.R_lt (by (with_reducible repeat (first | apply Kd.R_alloc | apply Kd.R_drewN | apply Kd.R_drew)); exact HO242.out))) (Kd.R_lt (by (with_reducible repeat (first | apply Kd.R_alloc | apply Kd.R_drewN | apply Kd.R_drew)); exact HO246.out))) (Kd.R_lt (by (with_reducible repeat (first | apply Kd.R_alloc | apply Kd.R_drewN | apply Kd.R_drew)); exact HO251.out))) (Kd.R_lt (by (with_reducible repeat (first | apply Kd.R_alloc | apply Kd.R_drewN | apply Kd.R_drew)); exact HO255.out))) (below_size (by repeat (first | (with_reducible first | exact HB.out | apply below_alloc | apply pw_below_drewN | apply below_drew1 | refine below_set ?_ GE229.out | refine below_set ?_ GE234.out | refine below_set ?_ GE247.out) | exact HB.out))))
                          have n6_ := Aside0.mk (blk_below (g := gb229) (o := .cells #[.int .i64 t226, .int .i64 t227] 37 (0, 0)) (by (with_reducible repeat (first | refine blk_drewN ?_ _ | refine blk_drew ?_ | refine blk_alloc ?_ _)); exact BK229.out) hb)
                          have n7_ := Aside0.mk (blk_below (g := gb234) (o := .cells #[.int .i64 t231, .int .i64 t232] 37 (0, 0)) (by (with_reducible repeat (first | refine blk_drewN ?_ _ | refine blk_drew ?_ | refine blk_alloc ?_ _)); exact BK234.out) hb)
                          have n8_ := Aside0.mk (blk_below (g := gb247) (o := .cells #[.bool t243, .slice Ao66 t244.length co66] 31 (0, 0)) (by (with_reducible repeat (first | refine blk_drewN ?_ _ | refine blk_drew ?_ | refine blk_alloc ?_ _)); exact BK247.out) hb)
                          have n9_ := Aside0.mk (below_step (by repeat (first | (with_reducible first | exact HB.out | apply below_alloc | apply pw_below_drewN | apply below_drew1 | refine below_set ?_ GE229.out | refine below_set ?_ GE234.out | refine below_set ?_ GE247.out) | exact HB.out)) hb)
                          clear HO238
                          clear HO242
                          clear HO246
                          clear HO251
                          clear HO255
                          clear BK229
                          clear BK234
                          clear BK247
                          clear HB
                          have HO238 := n0_
                          have HO242 := n1_
                          have HO246 := n2_
                          have HO251 := n3_
                          have HO255 := n4_
                          have HO259 := n5_
                          have BK229 := n6_
                          have BK234 := n7_
                          have BK247 := n8_
                          have HB := n9_
                          clear n0_ n1_ n2_ n3_ n4_ n5_ n6_ n7_ n8_ n9_
                          (try clear hb)
                          (try clear hb2)
                          (try clear hk)
                          (try clear hi)
                          (try clear ho0)
                          refine hK.out _ _ ⟨(blk_cell BK234.out 0).trans rfl, (blk_cell BK234.out 1).trans rfl⟩ (fun hHeld => ?_)
                          clear hK K
                          refine norm_ (a' := ?_) ?_ ?_
                          rotate_left
                          · show Act.put _ (some 84) _ = _
                            simp only [Act.put, List.setIfInBounds_toArray, List.set_cons_zero, List.set_cons_succ, i64_w, i32_w]
                            rfl
                          refine one_ (i := 6) (N := some 10) #[true, true, true, true, true, true, true, false] rfl rfl (one_of HT_.out (by kernel_rfl)) (by decide) (fun K hK => ?_)
                          refine box_step ?hg (N := 10) ?hd (cs := #[.bool false, .slice none 0 0]) (t := 31) ?hr ?_; (case hd => rfl); (case hg => rfl); (case hr => first | (go_simp; done) | (go_simp; rfl))
                          intro gb260 hg w74 hbox hb
                          have n0_ := Aside0.mk (Kd.R_below (by (with_reducible repeat (first | apply Kd.R_alloc | apply Kd.R_drewN | apply Kd.R_drew)); exact HO238.out) hb)
                          have n1_ := Aside0.mk (Kd.R_below (by (with_reducible repeat (first | apply Kd.R_alloc | apply Kd.R_drewN | apply Kd.R_drew)); exact HO242.out) hb)
                          have n2_ := Aside0.mk (Kd.R_below (by (with_reducible repeat (first | apply Kd.R_alloc | apply Kd.R_drewN | apply Kd.R_drew)); exact HO246.out) hb)
                          have n3_ := Aside0.mk (Kd.R_below (by (with_reducible repeat (first | apply Kd.R_alloc | apply Kd.R_drewN | apply Kd.R_drew)); exact HO251.out) hb)
                          have n4_ := Aside0.mk (Kd.R_below (by (with_reducible repeat (first | apply Kd.R_alloc | apply Kd.R_drewN | apply Kd.R_drew)); exact HO255.out) hb)
                          have n5_ := Aside0.mk (Kd.R_below (by (with_reducible repeat (first | apply Kd.R_alloc | apply Kd.R_drewN | apply Kd.R_drew)); exact HO259.out) hb)
                          have n6_ := Aside0.mk (blk_below (g := gb229) (o := .cells #[.int .i64 t226, .int .i64 t227] 37 (0, 0)) (by (with_reducible repeat (first | refine blk_drewN ?_ _ | refine blk_drew ?_ | refine blk_alloc ?_ _)); exact BK229.out) hb)
                          have n7_ := Aside0.mk (blk_below (g := gb234) (o := .cells #[.int .i64 t231, .int .i64 t232] 37 (0, 0)) (by (with_reducible repeat (first | refine blk_drewN ?_ _ | refine blk_drew ?_ | refine blk_alloc ?_ _)); exact BK234.out) hb)
                          have n8_ := Aside0.mk (blk_below (g := gb247) (o := .cells #[.bool t243, .slice Ao66 t244.length co66] 31 (0, 0)) (by (with_reducible repeat (first | refine blk_drewN ?_ _ | refine blk_drew ?_ | refine blk_alloc ?_ _)); exact BK247.out) hb)
                          have n9_ := Aside0.mk (below_step (by repeat (first | (with_reducible first | exact HB.out | apply below_alloc | apply pw_below_drewN | apply below_drew1 | refine below_set ?_ GE229.out | refine below_set ?_ GE234.out | refine below_set ?_ GE247.out) | exact HB.out)) hb)
                          have n10_ := Aside0.mk (hbox)
                          have n11_ := Aside0.mk ((by rw [hg]; exact (below_size (by repeat (first | (with_reducible first | exact HB.out | apply below_alloc | apply pw_below_drewN | apply below_drew1 | refine below_set ?_ GE229.out | refine below_set ?_ GE234.out | refine below_set ?_ GE247.out) | exact HB.out))) : w.heap.size ≤ gb260))
                          have n12_ := Aside0.mk ((by rw [hg]; exact (below_size (by repeat (first | (with_reducible first | exact HB.out | apply below_alloc | apply pw_below_drewN | apply below_drew1 | refine below_set ?_ GE229.out | refine below_set ?_ GE234.out | refine below_set ?_ GE247.out) | exact HB.out))) : w.heap.size ≤ gb260))
                          have n13_ := Aside0.mk ((by rw [hg]; exact Nat.ne_of_lt (blk_lt (g := gb229) (o := .cells #[.int .i64 t226, .int .i64 t227] 37 (0, 0)) (by (with_reducible repeat (first | refine blk_drewN ?_ _ | refine blk_drew ?_ | refine blk_alloc ?_ _)); exact BK229.out)) : gb229 ≠ gb260))
                          have n14_ := Aside0.mk ((by rw [hg]; exact Nat.ne_of_gt (blk_lt (g := gb229) (o := .cells #[.int .i64 t226, .int .i64 t227] 37 (0, 0)) (by (with_reducible repeat (first | refine blk_drewN ?_ _ | refine blk_drew ?_ | refine blk_alloc ?_ _)); exact BK229.out)) : gb260 ≠ gb229))
                          have n15_ := Aside0.mk ((by rw [hg]; exact Nat.ne_of_lt (blk_lt (g := gb234) (o := .cells #[.int .i64 t231, .int .i64 t232] 37 (0, 0)) (by (with_reducible repeat (first | refine blk_drewN ?_ _ | refine blk_drew ?_ | refine blk_alloc ?_ _)); exact BK234.out)) : gb234 ≠ gb260))
                          have n16_ := Aside0.mk ((by rw [hg]; exact Nat.ne_of_gt (blk_lt (g := gb234) (o := .cells #[.int .i64 t231, .int .i64 t232] 37 (0, 0)) (by (with_reducible repeat (first | refine blk_drewN ?_ _ | refine blk_drew ?_ | refine blk_alloc ?_ _)); exact BK234.out)) : gb260 ≠ gb234))
                          have n17_ := Aside0.mk ((by rw [hg]; exact Nat.ne_of_lt (blk_lt (g := gb247) (o := .cells #[.bool t243, .slice Ao66 t244.length co66] 31 (0, 0)) (by (with_reducible repeat (first | refine blk_drewN ?_ _ | refine blk_drew ?_ | refine blk_alloc ?_ _)); exact BK247.out)) : gb247 ≠ gb260))
                          have n18_ := Aside0.mk ((by rw [hg]; exact Nat.ne_of_gt (blk_lt (g := gb247) (o := .cells #[.bool t243, .slice Ao66 t244.length co66] 31 (0, 0)) (by (with_reducible repeat (first | refine blk_drewN ?_ _ | refine blk_drew ?_ | refine blk_alloc ?_ _)); exact BK247.out)) : gb260 ≠ gb247))
                          clear HO238
                          clear HO242
                          clear HO246
                          clear HO251
                          clear HO255
                          clear HO259
                          clear BK229
                          clear BK234
                          clear BK247
                          clear HB
                          have HO238 := n0_
                          have HO242 := n1_
                          have HO246 := n2_
                          have HO251 := n3_
                          have HO255 := n4_
                          have HO259 := n5_
                          have BK229 := n6_
                          have BK234 := n7_
                          have BK247 := n8_
                          have HB := n9_
                          have BK260 := n10_
                          have GW260 := n11_
                          have GE260 := n12_
                          have NB229_260 := n13_
                          have NB260_229 := n14_
                          have NB234_260 := n15_
                          have NB260_234 := n16_
                          have NB247_260 := n17_
                          have NB260_247 := n18_
                          clear n0_ n1_ n2_ n3_ n4_ n5_ n6_ n7_ n8_ n9_ n10_ n11_ n12_ n13_ n14_ n15_ n16_ n17_ n18_
                          clear hb hbox hg
                          refine hK.out _ _ ⟨(blk_cell BK234.out 0).trans rfl, (blk_cell BK234.out 1).trans rfl⟩ (fun hHeld => ?_)
                          clear hK K
                          refine norm_ (a' := ?_) ?_ ?_
                          rotate_left
                          · show Act.put _ (some 10) _ = _
                            simp only [Act.put, List.setIfInBounds_toArray, List.set_cons_zero, List.set_cons_succ, i64_w, i32_w]
                            rfl
                          exact norm_ (by simp only [putAll, Act.put, List.setIfInBounds_toArray, List.set_cons_zero, List.set_cons_succ]) (hCont (.slice Ao71 t249.length co71, .slice Ao72 t253.length co72, v258, gb260) _ ⟨hHeld, (by (with_reducible repeat (first | apply Kd.R_alloc | apply Kd.R_drewN | apply Kd.R_drew)); exact Kd.R_mono HO238.out (fun _ hk => ⟨hk.1.1.1.1, ⟨hk.1.1.1.2, ⟨hk.1.1.2, ⟨hk.1.2, hk.2⟩⟩⟩⟩)), (by (with_reducible repeat (first | apply Kd.R_alloc | apply Kd.R_drewN | apply Kd.R_drew)); exact Kd.R_mono HO242.out (fun _ hk => ⟨hk.1.1.1.1, ⟨hk.1.1.1.2, ⟨hk.1.1.2, ⟨hk.1.2, hk.2⟩⟩⟩⟩)), (by (with_reducible repeat (first | apply Kd.R_alloc | apply Kd.R_drewN | apply Kd.R_drew)); exact Kd.R_mono HO246.out (fun _ hk => ⟨hk.1.1.1.1, ⟨hk.1.1.1.2, ⟨hk.1.1.2, ⟨hk.1.2, hk.2⟩⟩⟩⟩)), (by (with_reducible repeat (first | apply Kd.R_alloc | apply Kd.R_drewN | apply Kd.R_drew)); exact Kd.R_mono HO251.out (fun _ hk => ⟨hk.1.1.1.1.2, ⟨hk.1.1.1.2, ⟨hk.1.1.2, ⟨hk.1.2, hk.2⟩⟩⟩⟩)), (by (with_reducible repeat (first | apply Kd.R_alloc | apply Kd.R_drewN | apply Kd.R_drew)); exact Kd.R_mono HO255.out (fun _ hk => ⟨hk.1.1.1.1.2, ⟨hk.1.1.1.2, ⟨hk.1.1.2, ⟨hk.1.2, hk.2⟩⟩⟩⟩)), (by (with_reducible repeat (first | apply Kd.R_alloc | apply Kd.R_drewN | apply Kd.R_drew)); exact Kd.R_mono HO259.out (fun _ hk => ⟨hk.1.1.1.1.2, ⟨hk.1.1.1.2, ⟨hk.1.1.2, ⟨hk.1.2, hk.2⟩⟩⟩⟩)), (by (with_reducible repeat (first | refine blk_drewN ?_ _ | refine blk_drew ?_ | refine blk_alloc ?_ _)); exact BK229.out), (by (with_reducible repeat (first | refine blk_drewN ?_ _ | refine blk_drew ?_ | refine blk_alloc ?_ _)); exact BK234.out), (by (with_reducible repeat (first | refine blk_drewN ?_ _ | refine blk_drew ?_ | refine blk_alloc ?_ _)); exact BK247.out), (by (with_reducible repeat (first | refine blk_drewN ?_ _ | refine blk_drew ?_ | refine blk_alloc ?_ _)); exact BK260.out), GW260.out, GE260.out, NB229_260.out, NB260_229.out, NB234_260.out, NB260_234.out, NB247_260.out, NB260_247.out, (by repeat (first | (with_reducible first | exact HB.out | apply below_alloc | apply pw_below_drewN | apply below_drew1 | refine below_set ?_ GE229.out | refine below_set ?_ GE234.out | refine below_set ?_ GE247.out | refine below_set ?_ GE260.out) | exact HB.out))⟩)
                        · skip
                          refine box_step ?hg (N := 10) ?hd (cs := #[.bool false, .slice none 0 0]) (t := 31) ?hr ?_; (case hd => rfl); (case hg => rfl); (case hr => first | (go_simp; done) | (go_simp; rfl))
                          intro gb260 hg w71 hbox hb
                          have n0_ := Aside0.mk (Kd.R_below (by (with_reducible repeat (first | apply Kd.R_alloc | apply Kd.R_drewN | apply Kd.R_drew)); exact HO238.out) hb)
                          have n1_ := Aside0.mk (Kd.R_below (by (with_reducible repeat (first | apply Kd.R_alloc | apply Kd.R_drewN | apply Kd.R_drew)); exact HO242.out) hb)
                          have n2_ := Aside0.mk (Kd.R_below (by (with_reducible repeat (first | apply Kd.R_alloc | apply Kd.R_drewN | apply Kd.R_drew)); exact HO246.out) hb)
                          have n3_ := Aside0.mk (Kd.R_below (by (with_reducible repeat (first | apply Kd.R_alloc | apply Kd.R_drewN | apply Kd.R_drew)); exact HO251.out) hb)
                          have n4_ := Aside0.mk (Kd.R_below (by (with_reducible repeat (first | apply Kd.R_alloc | apply Kd.R_drewN | apply Kd.R_drew)); exact HO255.out) hb)
                          have n5_ := Aside0.mk (blk_below (g := gb229) (o := .cells #[.int .i64 t226, .int .i64 t227] 37 (0, 0)) (by (with_reducible repeat (first | refine blk_drewN ?_ _ | refine blk_drew ?_ | refine blk_alloc ?_ _)); exact BK229.out) hb)
                          have n6_ := Aside0.mk (blk_below (g := gb234) (o := .cells #[.int .i64 t231, .int .i64 t232] 37 (0, 0)) (by (with_reducible repeat (first | refine blk_drewN ?_ _ | refine blk_drew ?_ | refine blk_alloc ?_ _)); exact BK234.out) hb)
                          have n7_ := Aside0.mk (blk_below (g := gb247) (o := .cells #[.bool t243, .slice Ao66 t244.length co66] 31 (0, 0)) (by (with_reducible repeat (first | refine blk_drewN ?_ _ | refine blk_drew ?_ | refine blk_alloc ?_ _)); exact BK247.out) hb)
                          have n8_ := Aside0.mk (below_step (by repeat (first | (with_reducible first | exact HB.out | apply below_alloc | apply pw_below_drewN | apply below_drew1 | refine below_set ?_ GE229.out | refine below_set ?_ GE234.out | refine below_set ?_ GE247.out) | exact HB.out)) hb)
                          have n9_ := Aside0.mk (hbox)
                          have n10_ := Aside0.mk ((by rw [hg]; exact (below_size (by repeat (first | (with_reducible first | exact HB.out | apply below_alloc | apply pw_below_drewN | apply below_drew1 | refine below_set ?_ GE229.out | refine below_set ?_ GE234.out | refine below_set ?_ GE247.out) | exact HB.out))) : w.heap.size ≤ gb260))
                          have n11_ := Aside0.mk ((by rw [hg]; exact (below_size (by repeat (first | (with_reducible first | exact HB.out | apply below_alloc | apply pw_below_drewN | apply below_drew1 | refine below_set ?_ GE229.out | refine below_set ?_ GE234.out | refine below_set ?_ GE247.out) | exact HB.out))) : w.heap.size ≤ gb260))
                          have n12_ := Aside0.mk ((by rw [hg]; exact Nat.ne_of_lt (blk_lt (g := gb229) (o := .cells #[.int .i64 t226, .int .i64 t227] 37 (0, 0)) (by (with_reducible repeat (first | refine blk_drewN ?_ _ | refine blk_drew ?_ | refine blk_alloc ?_ _)); exact BK229.out)) : gb229 ≠ gb260))
                          have n13_ := Aside0.mk ((by rw [hg]; exact Nat.ne_of_gt (blk_lt (g := gb229) (o := .cells #[.int .i64 t226, .int .i64 t227] 37 (0, 0)) (by (with_reducible repeat (first | refine blk_drewN ?_ _ | refine blk_drew ?_ | refine blk_alloc ?_ _)); exact BK229.out)) : gb260 ≠ gb229))
                          have n14_ := Aside0.mk ((by rw [hg]; exact Nat.ne_of_lt (blk_lt (g := gb234) (o := .cells #[.int .i64 t231, .int .i64 t232] 37 (0, 0)) (by (with_reducible repeat (first | refine blk_drewN ?_ _ | refine blk_drew ?_ | refine blk_alloc ?_ _)); exact BK234.out)) : gb234 ≠ gb260))
                          have n15_ := Aside0.mk ((by rw [hg]; exact Nat.ne_of_gt (blk_lt (g := gb234) (o := .cells #[.int .i64 t231, .int .i64 t232] 37 (0, 0)) (by (with_reducible repeat (first | refine blk_drewN ?_ _ | refine blk_drew ?_ | refine blk_alloc ?_ _)); exact BK234.out)) : gb260 ≠ gb234))
                          have n16_ := Aside0.mk ((by rw [hg]; exact Nat.ne_of_lt (blk_lt (g := gb247) (o := .cells #[.bool t243, .slice Ao66 t244.length co66] 31 (0, 0)) (by (with_reducible repeat (first | refine blk_drewN ?_ _ | refine blk_drew ?_ | refine blk_alloc ?_ _)); exact BK247.out)) : gb247 ≠ gb260))
                          have n17_ := Aside0.mk ((by rw [hg]; exact Nat.ne_of_gt (blk_lt (g := gb247) (o := .cells #[.bool t243, .slice Ao66 t244.length co66] 31 (0, 0)) (by (with_reducible repeat (first | refine blk_drewN ?_ _ | refine blk_drew ?_ | refine blk_alloc ?_ _)); exact BK247.out)) : gb260 ≠ gb247))
                          clear HO238
                          clear HO242
                          clear HO246
                          clear HO251
                          clear HO255
                          clear BK229
                          clear BK234
                          clear BK247
                          clear HB
                          have HO238 := n0_
                          have HO242 := n1_
                          have HO246 := n2_
                          have HO251 := n3_
                          have HO255 := n4_
                          have BK229 := n5_
                          have BK234 := n6_
                          have BK247 := n7_
                          have HB := n8_
                          have BK260 := n9_
                          have GW260 := n10_
                          have GE260 := n11_
                          have NB229_260 := n12_
                          have NB260_229 := n13_
                          have NB234_260 := n14_
                          have NB260_234 := n15_
                          have NB247_260 := n16_
                          have NB260_247 := n17_
                          clear n0_ n1_ n2_ n3_ n4_ n5_ n6_ n7_ n8_ n9_ n10_ n11_ n12_ n13_ n14_ n15_ n16_ n17_
                          clear hb hbox hg
                          obtain ⟨Ao72, co72, eo72⟩ := Kd.R_slice HO251.out
                          (first | subst eo72 | (injection eo72 with f1_ f2_ f3_; have f4_ := f1_.symm; have f5_ := f3_.symm; clear f1_ f2_ f3_; subst f4_; subst f5_))
                          obtain ⟨Ao73, co73, eo73⟩ := Kd.R_slice HO255.out
                          (first | subst eo73 | (injection eo73 with f1_ f2_ f3_; have f4_ := f1_.symm; have f5_ := f3_.symm; clear f1_ f2_ f3_; subst f4_; subst f5_))
                          refine hK.out _ _ ⟨(blk_cell BK234.out 0).trans rfl, (blk_cell BK234.out 1).trans rfl⟩ (fun hHeld => ?_)
                          clear hK K
                          refine norm_ (a' := ?_) ?_ ?_
                          rotate_left
                          · show Act.put _ (some 10) _ = _
                            simp only [Act.put, List.setIfInBounds_toArray, List.set_cons_zero, List.set_cons_succ, i64_w, i32_w]
                            rfl
                          refine one_ (i := 5) (N := some 84) #[true, true, true, true, true, true, true, false] rfl rfl (one_of HT_.out (by kernel_rfl)) (by decide) (fun K hK => ?_)
                          refine goes_ Try.func14 (by kernel_rfl) rfl #[.agg #[.bool t248, .slice Ao72 t249.length co72], .agg #[.bool t252, .slice Ao73 t253.length co73]] (by rfl) rfl rfl (by (try simp only [List.map_toArray, List.map_cons, List.map_nil]); first | done | rfl | (simp only [List.length_drop, List.length_take]; rfl) | (simp only [*]; rfl) | (simp [*]; done) | (simp [*]; (repeat' apply And.intro) <;> rfl)) ?_
                          with_reducible refine (compassref01_Times.calls kj3 t248 _ _ t249 t252 _ _ t253 t256 t257 _ ?side1 ?side2 ?side3 ?side4 A47.out).mono ?_
                          (case side1 => repeat (first | exact (Kd.R_reads' HO251.out).2.2 | (with_reducible refine Kd.C_alloc ?_ _) | (with_reducible refine Kd.C_drewN ?_ _) | (with_reducible refine Kd.C_drew ?_)))
                          (case side2 => exact (Kd.R_reads' HO251.out).2.1)
                          (case side3 => repeat (first | exact (Kd.R_reads' HO255.out).2.2 | (with_reducible refine Kd.C_alloc ?_ _) | (with_reducible refine Kd.C_drewN ?_ _) | (with_reducible refine Kd.C_drew ?_)))
                          (case side4 => exact (Kd.R_reads' HO255.out).2.1)
                          rintro e w74 ⟨v258, rfl, ho0, hb⟩
                          refine ⟨_, rfl, ?_⟩
                          have n0_ := Aside0.mk (Kd.R_elder' (by (with_reducible repeat (first | apply Kd.R_alloc | apply Kd.R_drewN | apply Kd.R_drew)); exact HO238.out) (Kd.R_base ho0) hb)
                          have n1_ := Aside0.mk (Kd.R_elder' (by (with_reducible repeat (first | apply Kd.R_alloc | apply Kd.R_drewN | apply Kd.R_drew)); exact HO242.out) (Kd.R_base ho0) hb)
                          have n2_ := Aside0.mk (Kd.R_elder' (by (with_reducible repeat (first | apply Kd.R_alloc | apply Kd.R_drewN | apply Kd.R_drew)); exact HO246.out) (Kd.R_base ho0) hb)
                          have n3_ := Aside0.mk (Kd.R_elder' (by (with_reducible repeat (first | apply Kd.R_alloc | apply Kd.R_drewN | apply Kd.R_drew)); exact HO251.out) (Kd.R_base ho0) hb)
                          have n4_ := Aside0.mk (Kd.R_elder' (by (with_reducible repeat (first | apply Kd.R_alloc | apply Kd.R_drewN | apply Kd.R_drew)); exact HO255.out) (Kd.R_base ho0) hb)
                          have n5_ := Aside0.mk (Kd.R_lower (Kd.R_new' (Kd.R_new' (Kd.R_new' (Kd.R_new' (Kd.R_new' ho0 (Kd.R_lt (by (with_reducible repeat (first | apply Kd.R_alloc | apply Kd.R_drewN | apply Kd.R_drew)); exact HO238.out))) (Kd.R_lt (by (with_reducible repeat (first | apply Kd.R_alloc | apply Kd.R_drewN | apply Kd.R_drew)); exact HO242.out))) (Kd.R_lt (by (with_reducible repeat (first | apply Kd.R_alloc | apply Kd.R_drewN | apply Kd.R_drew)); exact HO246.out))) (Kd.R_lt (by (with_reducible repeat (first | apply Kd.R_alloc | apply Kd.R_drewN | apply Kd.R_drew)); exact HO251.out))) (Kd.R_lt (by (with_reducible repeat (first | apply Kd.R_alloc | apply Kd.R_drewN | apply Kd.R_drew)); exact HO255.out))) (below_size (by repeat (first | (with_reducible first | exact HB.out | apply below_alloc | apply pw_below_drewN | apply below_drew1 | refine below_set ?_ GE229.out | refine below_set ?_ GE234.out | refine below_set ?_ GE247.out | refine below_set ?_ GE260.out) | exact HB.out))))
                          have n6_ := Aside0.mk (blk_below (g := gb229) (o := .cells #[.int .i64 t226, .int .i64 t227] 37 (0, 0)) (by (with_reducible repeat (first | refine blk_drewN ?_ _ | refine blk_drew ?_ | refine blk_alloc ?_ _)); exact BK229.out) hb)
                          have n7_ := Aside0.mk (blk_below (g := gb234) (o := .cells #[.int .i64 t231, .int .i64 t232] 37 (0, 0)) (by (with_reducible repeat (first | refine blk_drewN ?_ _ | refine blk_drew ?_ | refine blk_alloc ?_ _)); exact BK234.out) hb)
                          have n8_ := Aside0.mk (blk_below (g := gb247) (o := .cells #[.bool t243, .slice Ao66 t244.length co66] 31 (0, 0)) (by (with_reducible repeat (first | refine blk_drewN ?_ _ | refine blk_drew ?_ | refine blk_alloc ?_ _)); exact BK247.out) hb)
                          have n9_ := Aside0.mk (blk_below (g := gb260) (o := .cells #[.bool false, .slice none 0 0] 31 (0, 0)) (by (with_reducible repeat (first | refine blk_drewN ?_ _ | refine blk_drew ?_ | refine blk_alloc ?_ _)); exact BK260.out) hb)
                          have n10_ := Aside0.mk (below_step (by repeat (first | (with_reducible first | exact HB.out | apply below_alloc | apply pw_below_drewN | apply below_drew1 | refine below_set ?_ GE229.out | refine below_set ?_ GE234.out | refine below_set ?_ GE247.out | refine below_set ?_ GE260.out) | exact HB.out)) hb)
                          clear HO238
                          clear HO242
                          clear HO246
                          clear HO251
                          clear HO255
                          clear BK229
                          clear BK234
                          clear BK247
                          clear BK260
                          clear HB
                          have HO238 := n0_
                          have HO242 := n1_
                          have HO246 := n2_
                          have HO251 := n3_
                          have HO255 := n4_
                          have HO259 := n5_
                          have BK229 := n6_
                          have BK234 := n7_
                          have BK247 := n8_
                          have BK260 := n9_
                          have HB := n10_
                          clear n0_ n1_ n2_ n3_ n4_ n5_ n6_ n7_ n8_ n9_ n10_
                          (try clear hb)
                          (try clear hb2)
                          (try clear hk)
                          (try clear hi)
                          (try clear ho0)
                          refine hK.out _ _ ⟨(blk_cell BK234.out 0).trans rfl, (blk_cell BK234.out 1).trans rfl⟩ (fun hHeld => ?_)
                          clear hK K
                          refine norm_ (a' := ?_) ?_ ?_
                          rotate_left
                          · show Act.put _ (some 84) _ = _
                            simp only [Act.put, List.setIfInBounds_toArray, List.set_cons_zero, List.set_cons_succ, i64_w, i32_w]
                            rfl
                          exact norm_ (by simp only [putAll, Act.put, List.setIfInBounds_toArray, List.set_cons_zero, List.set_cons_succ]) (hCont (.slice Ao72 t249.length co72, .slice Ao73 t253.length co73, v258, gb260) _ ⟨hHeld, (by (with_reducible repeat (first | apply Kd.R_alloc | apply Kd.R_drewN | apply Kd.R_drew)); exact Kd.R_mono HO238.out (fun _ hk => ⟨hk.1.1.1.1, ⟨hk.1.1.1.2, ⟨hk.1.1.2, ⟨hk.1.2, hk.2⟩⟩⟩⟩)), (by (with_reducible repeat (first | apply Kd.R_alloc | apply Kd.R_drewN | apply Kd.R_drew)); exact Kd.R_mono HO242.out (fun _ hk => ⟨hk.1.1.1.1, ⟨hk.1.1.1.2, ⟨hk.1.1.2, ⟨hk.1.2, hk.2⟩⟩⟩⟩)), (by (with_reducible repeat (first | apply Kd.R_alloc | apply Kd.R_drewN | apply Kd.R_drew)); exact Kd.R_mono HO246.out (fun _ hk => ⟨hk.1.1.1.1, ⟨hk.1.1.1.2, ⟨hk.1.1.2, ⟨hk.1.2, hk.2⟩⟩⟩⟩)), (by (with_reducible repeat (first | apply Kd.R_alloc | apply Kd.R_drewN | apply Kd.R_drew)); exact Kd.R_mono HO251.out (fun _ hk => ⟨hk.1.1.1.1.2, ⟨hk.1.1.1.2, ⟨hk.1.1.2, ⟨hk.1.2, hk.2⟩⟩⟩⟩)), (by (with_reducible repeat (first | apply Kd.R_alloc | apply Kd.R_drewN | apply Kd.R_drew)); exact Kd.R_mono HO255.out (fun _ hk => ⟨hk.1.1.1.1.2, ⟨hk.1.1.1.2, ⟨hk.1.1.2, ⟨hk.1.2, hk.2⟩⟩⟩⟩)), (by (with_reducible repeat (first | apply Kd.R_alloc | apply Kd.R_drewN | apply Kd.R_drew)); exact Kd.R_mono HO259.out (fun _ hk => ⟨hk.1.1.1.1.2, ⟨hk.1.1.1.2, ⟨hk.1.1.2, ⟨hk.1.2, hk.2⟩⟩⟩⟩)), (by (with_reducible repeat (first | refine blk_drewN ?_ _ | refine blk_drew ?_ | refine blk_alloc ?_ _)); exact BK229.out), (by (with_reducible repeat (first | refine blk_drewN ?_ _ | refine blk_drew ?_ | refine blk_alloc ?_ _)); exact BK234.out), (by (with_reducible repeat (first | refine blk_drewN ?_ _ | refine blk_drew ?_ | refine blk_alloc ?_ _)); exact BK247.out), (by (with_reducible repeat (first | refine blk_drewN ?_ _ | refine blk_drew ?_ | refine blk_alloc ?_ _)); exact BK260.out), GW260.out, GE260.out, NB229_260.out, NB260_229.out, NB234_260.out, NB260_234.out, NB247_260.out, NB260_247.out, (by repeat (first | (with_reducible first | exact HB.out | apply below_alloc | apply pw_below_drewN | apply below_drew1 | refine below_set ?_ GE229.out | refine below_set ?_ GE234.out | refine below_set ?_ GE247.out | refine below_set ?_ GE260.out) | exact HB.out))⟩)
                      · skip
                        refine box_step ?hg (N := 10) ?hd (cs := #[.bool false, .slice none 0 0]) (t := 31) ?hr ?_; (case hd => rfl); (case hg => rfl); (case hr => first | (go_simp; done) | (go_simp; rfl))
                        intro gb260 hg w70 hbox hb
                        have n0_ := Aside0.mk (Kd.R_below (by (with_reducible repeat (first | apply Kd.R_alloc | apply Kd.R_drewN | apply Kd.R_drew)); exact HO238.out) hb)
                        have n1_ := Aside0.mk (Kd.R_below (by (with_reducible repeat (first | apply Kd.R_alloc | apply Kd.R_drewN | apply Kd.R_drew)); exact HO242.out) hb)
                        have n2_ := Aside0.mk (Kd.R_below (by (with_reducible repeat (first | apply Kd.R_alloc | apply Kd.R_drewN | apply Kd.R_drew)); exact HO246.out) hb)
                        have n3_ := Aside0.mk (Kd.R_below (by (with_reducible repeat (first | apply Kd.R_alloc | apply Kd.R_drewN | apply Kd.R_drew)); exact HO251.out) hb)
                        have n4_ := Aside0.mk (blk_below (g := gb229) (o := .cells #[.int .i64 t226, .int .i64 t227] 37 (0, 0)) (by (with_reducible repeat (first | refine blk_drewN ?_ _ | refine blk_drew ?_ | refine blk_alloc ?_ _)); exact BK229.out) hb)
                        have n5_ := Aside0.mk (blk_below (g := gb234) (o := .cells #[.int .i64 t231, .int .i64 t232] 37 (0, 0)) (by (with_reducible repeat (first | refine blk_drewN ?_ _ | refine blk_drew ?_ | refine blk_alloc ?_ _)); exact BK234.out) hb)
                        have n6_ := Aside0.mk (blk_below (g := gb247) (o := .cells #[.bool t243, .slice Ao66 t244.length co66] 31 (0, 0)) (by (with_reducible repeat (first | refine blk_drewN ?_ _ | refine blk_drew ?_ | refine blk_alloc ?_ _)); exact BK247.out) hb)
                        have n7_ := Aside0.mk (below_step (by repeat (first | (with_reducible first | exact HB.out | apply below_alloc | apply pw_below_drewN | apply below_drew1 | refine below_set ?_ GE229.out | refine below_set ?_ GE234.out | refine below_set ?_ GE247.out) | exact HB.out)) hb)
                        have n8_ := Aside0.mk (hbox)
                        have n9_ := Aside0.mk ((by rw [hg]; exact (below_size (by repeat (first | (with_reducible first | exact HB.out | apply below_alloc | apply pw_below_drewN | apply below_drew1 | refine below_set ?_ GE229.out | refine below_set ?_ GE234.out | refine below_set ?_ GE247.out) | exact HB.out))) : w.heap.size ≤ gb260))
                        have n10_ := Aside0.mk ((by rw [hg]; exact (below_size (by repeat (first | (with_reducible first | exact HB.out | apply below_alloc | apply pw_below_drewN | apply below_drew1 | refine below_set ?_ GE229.out | refine below_set ?_ GE234.out | refine below_set ?_ GE247.out) | exact HB.out))) : w.heap.size ≤ gb260))
                        have n11_ := Aside0.mk ((by rw [hg]; exact Nat.ne_of_lt (blk_lt (g := gb229) (o := .cells #[.int .i64 t226, .int .i64 t227] 37 (0, 0)) (by (with_reducible repeat (first | refine blk_drewN ?_ _ | refine blk_drew ?_ | refine blk_alloc ?_ _)); exact BK229.out)) : gb229 ≠ gb260))
                        have n12_ := Aside0.mk ((by rw [hg]; exact Nat.ne_of_gt (blk_lt (g := gb229) (o := .cells #[.int .i64 t226, .int .i64 t227] 37 (0, 0)) (by (with_reducible repeat (first | refine blk_drewN ?_ _ | refine blk_drew ?_ | refine blk_alloc ?_ _)); exact BK229.out)) : gb260 ≠ gb229))
                        have n13_ := Aside0.mk ((by rw [hg]; exact Nat.ne_of_lt (blk_lt (g := gb234) (o := .cells #[.int .i64 t231, .int .i64 t232] 37 (0, 0)) (by (with_reducible repeat (first | refine blk_drewN ?_ _ | refine blk_drew ?_ | refine blk_alloc ?_ _)); exact BK234.out)) : gb234 ≠ gb260))
                        have n14_ := Aside0.mk ((by rw [hg]; exact Nat.ne_of_gt (blk_lt (g := gb234) (o := .cells #[.int .i64 t231, .int .i64 t232] 37 (0, 0)) (by (with_reducible repeat (first | refine blk_drewN ?_ _ | refine blk_drew ?_ | refine blk_alloc ?_ _)); exact BK234.out)) : gb260 ≠ gb234))
                        have n15_ := Aside0.mk ((by rw [hg]; exact Nat.ne_of_lt (blk_lt (g := gb247) (o := .cells #[.bool t243, .slice Ao66 t244.length co66] 31 (0, 0)) (by (with_reducible repeat (first | refine blk_drewN ?_ _ | refine blk_drew ?_ | refine blk_alloc ?_ _)); exact BK247.out)) : gb247 ≠ gb260))
                        have n16_ := Aside0.mk ((by rw [hg]; exact Nat.ne_of_gt (blk_lt (g := gb247) (o := .cells #[.bool t243, .slice Ao66 t244.length co66] 31 (0, 0)) (by (with_reducible repeat (first | refine blk_drewN ?_ _ | refine blk_drew ?_ | refine blk_alloc ?_ _)); exact BK247.out)) : gb260 ≠ gb247))
                        clear HO238
                        clear HO242
                        clear HO246
                        clear HO251
                        clear BK229
                        clear BK234
                        clear BK247
                        clear HB
                        have HO238 := n0_
                        have HO242 := n1_
                        have HO246 := n2_
                        have HO251 := n3_
                        have BK229 := n4_
                        have BK234 := n5_
                        have BK247 := n6_
                        have HB := n7_
                        have BK260 := n8_
                        have GW260 := n9_
                        have GE260 := n10_
                        have NB229_260 := n11_
                        have NB260_229 := n12_
                        have NB234_260 := n13_
                        have NB260_234 := n14_
                        have NB247_260 := n15_
                        have NB260_247 := n16_
                        clear n0_ n1_ n2_ n3_ n4_ n5_ n6_ n7_ n8_ n9_ n10_ n11_ n12_ n13_ n14_ n15_ n16_
                        clear hb hbox hg
                        refine hK.out _ _ ⟨(blk_cell BK234.out 0).trans rfl, (blk_cell BK234.out 1).trans rfl⟩ (fun hHeld => ?_)
                        clear hK K
                        refine norm_ (a' := ?_) ?_ ?_
                        rotate_left
                        · show Act.put _ (some 10) _ = _
                          simp only [Act.put, List.setIfInBounds_toArray, List.set_cons_zero, List.set_cons_succ, i64_w, i32_w]
                          rfl
                        refine one_ (i := 4) (N := some 83) #[true, true, true, true, true, false, true, false] rfl rfl (one_of HT_.out (by kernel_rfl)) (by decide) (fun K hK => ?_)
                        refine goes_ Try.func15 (by kernel_rfl) rfl #[.int .i64 t232] (by rfl) rfl rfl (by (try simp only [List.map_toArray, List.map_cons, List.map_nil]); first | done | rfl | (simp only [List.length_drop, List.length_take]; rfl) | (simp only [*]; rfl) | (simp [*]; done) | (simp [*]; (repeat' apply And.intro) <;> rfl)) ?_
                        with_reducible refine (compassref01_Of.calls kj3 t232 t252 t253 _ A46.out).mono ?_
                        rintro e w71 ⟨v254, rfl, ho0, hb⟩
                        refine ⟨_, rfl, ?_⟩
                        have n0_ := Aside0.mk (Kd.R_elder' (by (with_reducible repeat (first | apply Kd.R_alloc | apply Kd.R_drewN | apply Kd.R_drew)); exact HO238.out) (Kd.R_base ho0) hb)
                        have n1_ := Aside0.mk (Kd.R_elder' (by (with_reducible repeat (first | apply Kd.R_alloc | apply Kd.R_drewN | apply Kd.R_drew)); exact HO242.out) (Kd.R_base ho0) hb)
                        have n2_ := Aside0.mk (Kd.R_elder' (by (with_reducible repeat (first | apply Kd.R_alloc | apply Kd.R_drewN | apply Kd.R_drew)); exact HO246.out) (Kd.R_base ho0) hb)
                        have n3_ := Aside0.mk (Kd.R_elder' (by (with_reducible repeat (first | apply Kd.R_alloc | apply Kd.R_drewN | apply Kd.R_drew)); exact HO251.out) (Kd.R_base ho0) hb)
                        have n4_ := Aside0.mk (Kd.R_lower (Kd.R_new' (Kd.R_new' (Kd.R_new' (Kd.R_new' ho0 (Kd.R_lt (by (with_reducible repeat (first | apply Kd.R_alloc | apply Kd.R_drewN | apply Kd.R_drew)); exact HO238.out))) (Kd.R_lt (by (with_reducible repeat (first | apply Kd.R_alloc | apply Kd.R_drewN | apply Kd.R_drew)); exact HO242.out))) (Kd.R_lt (by (with_reducible repeat (first | apply Kd.R_alloc | apply Kd.R_drewN | apply Kd.R_drew)); exact HO246.out))) (Kd.R_lt (by (with_reducible repeat (first | apply Kd.R_alloc | apply Kd.R_drewN | apply Kd.R_drew)); exact HO251.out))) (below_size (by repeat (first | (with_reducible first | exact HB.out | apply below_alloc | apply pw_below_drewN | apply below_drew1 | refine below_set ?_ GE229.out | refine below_set ?_ GE234.out | refine below_set ?_ GE247.out | refine below_set ?_ GE260.out) | exact HB.out))))
                        have n5_ := Aside0.mk (blk_below (g := gb229) (o := .cells #[.int .i64 t226, .int .i64 t227] 37 (0, 0)) (by (with_reducible repeat (first | refine blk_drewN ?_ _ | refine blk_drew ?_ | refine blk_alloc ?_ _)); exact BK229.out) hb)
                        have n6_ := Aside0.mk (blk_below (g := gb234) (o := .cells #[.int .i64 t231, .int .i64 t232] 37 (0, 0)) (by (with_reducible repeat (first | refine blk_drewN ?_ _ | refine blk_drew ?_ | refine blk_alloc ?_ _)); exact BK234.out) hb)
                        have n7_ := Aside0.mk (blk_below (g := gb247) (o := .cells #[.bool t243, .slice Ao66 t244.length co66] 31 (0, 0)) (by (with_reducible repeat (first | refine blk_drewN ?_ _ | refine blk_drew ?_ | refine blk_alloc ?_ _)); exact BK247.out) hb)
                        have n8_ := Aside0.mk (blk_below (g := gb260) (o := .cells #[.bool false, .slice none 0 0] 31 (0, 0)) (by (with_reducible repeat (first | refine blk_drewN ?_ _ | refine blk_drew ?_ | refine blk_alloc ?_ _)); exact BK260.out) hb)
                        have n9_ := Aside0.mk (below_step (by repeat (first | (with_reducible first | exact HB.out | apply below_alloc | apply pw_below_drewN | apply below_drew1 | refine below_set ?_ GE229.out | refine below_set ?_ GE234.out | refine below_set ?_ GE247.out | refine below_set ?_ GE260.out) | exact HB.out)) hb)
                        clear HO238
                        clear HO242
                        clear HO246
                        clear HO251
                        clear BK229
                        clear BK234
                        clear BK247
                        clear BK260
                        clear HB
                        have HO238 := n0_
                        have HO242 := n1_
                        have HO246 := n2_
                        have HO251 := n3_
                        have HO255 := n4_
                        have BK229 := n5_
                        have BK234 := n6_
                        have BK247 := n7_
                        have BK260 := n8_
                        have HB := n9_
                        clear n0_ n1_ n2_ n3_ n4_ n5_ n6_ n7_ n8_ n9_
                        (try clear hb)
                        (try clear hb2)
                        (try clear hk)
                        (try clear hi)
                        (try clear ho0)
                        obtain ⟨Ao72, co72, eo72⟩ := Kd.R_slice HO251.out
                        (first | subst eo72 | (injection eo72 with f1_ f2_ f3_; have f4_ := f1_.symm; have f5_ := f3_.symm; clear f1_ f2_ f3_; subst f4_; subst f5_))
                        obtain ⟨Ao73, co73, eo73⟩ := Kd.R_slice HO255.out
                        (first | subst eo73 | (injection eo73 with f1_ f2_ f3_; have f4_ := f1_.symm; have f5_ := f3_.symm; clear f1_ f2_ f3_; subst f4_; subst f5_))
                        refine hK.out _ _ ⟨(blk_cell BK234.out 0).trans rfl, (blk_cell BK234.out 1).trans rfl⟩ (fun hHeld => ?_)
                        clear hK K
                        refine norm_ (a' := ?_) ?_ ?_
                        rotate_left
                        · show Act.put _ (some 83) _ = _
                          simp only [Act.put, List.setIfInBounds_toArray, List.set_cons_zero, List.set_cons_succ, i64_w, i32_w]
                          rfl
                        refine one_ (i := 5) (N := some 84) #[true, true, true, true, true, true, true, false] rfl rfl (one_of HT_.out (by kernel_rfl)) (by decide) (fun K hK => ?_)
                        refine goes_ Try.func14 (by kernel_rfl) rfl #[.agg #[.bool t248, .slice Ao72 t249.length co72], .agg #[.bool t252, .slice Ao73 t253.length co73]] (by rfl) rfl rfl (by (try simp only [List.map_toArray, List.map_cons, List.map_nil]); first | done | rfl | (simp only [List.length_drop, List.length_take]; rfl) | (simp only [*]; rfl) | (simp [*]; done) | (simp [*]; (repeat' apply And.intro) <;> rfl)) ?_
                        with_reducible refine (compassref01_Times.calls kj3 t248 _ _ t249 t252 _ _ t253 t256 t257 _ ?side1 ?side2 ?side3 ?side4 A47.out).mono ?_
                        (case side1 => repeat (first | exact (Kd.R_reads' HO251.out).2.2 | (with_reducible refine Kd.C_alloc ?_ _) | (with_reducible refine Kd.C_drewN ?_ _) | (with_reducible refine Kd.C_drew ?_)))
                        (case side2 => exact (Kd.R_reads' HO251.out).2.1)
                        (case side3 => repeat (first | exact (Kd.R_reads' HO255.out).2.2 | (with_reducible refine Kd.C_alloc ?_ _) | (with_reducible refine Kd.C_drewN ?_ _) | (with_reducible refine Kd.C_drew ?_)))
                        (case side4 => exact (Kd.R_reads' HO255.out).2.1)
                        rintro e w74 ⟨v258, rfl, ho0, hb⟩
                        refine ⟨_, rfl, ?_⟩
                        have n0_ := Aside0.mk (Kd.R_elder' (by (with_reducible repeat (first | apply Kd.R_alloc | apply Kd.R_drewN | apply Kd.R_drew)); exact HO238.out) (Kd.R_base ho0) hb)
                        have n1_ := Aside0.mk (Kd.R_elder' (by (with_reducible repeat (first | apply Kd.R_alloc | apply Kd.R_drewN | apply Kd.R_drew)); exact HO242.out) (Kd.R_base ho0) hb)
                        have n2_ := Aside0.mk (Kd.R_elder' (by (with_reducible repeat (first | apply Kd.R_alloc | apply Kd.R_drewN | apply Kd.R_drew)); exact HO246.out) (Kd.R_base ho0) hb)
                        have n3_ := Aside0.mk (Kd.R_elder' (by (with_reducible repeat (first | apply Kd.R_alloc | apply Kd.R_drewN | apply Kd.R_drew)); exact HO251.out) (Kd.R_base ho0) hb)
                        have n4_ := Aside0.mk (Kd.R_elder' (by (with_reducible repeat (first | apply Kd.R_alloc | apply Kd.R_drewN | apply Kd.R_drew)); exact HO255.out) (Kd.R_base ho0) hb)
                        have n5_ := Aside0.mk (Kd.R_lower (Kd.R_new' (Kd.R_new' (Kd.R_new' (Kd.R_new' (Kd.R_new' ho0 (Kd.R_lt (by (with_reducible repeat (first | apply Kd.R_alloc | apply Kd.R_drewN | apply Kd.R_drew)); exact HO238.out))) (Kd.R_lt (by (with_reducible repeat (first | apply Kd.R_alloc | apply Kd.R_drewN | apply Kd.R_drew)); exact HO242.out))) (Kd.R_lt (by (with_reducible repeat (first | apply Kd.R_alloc | apply Kd.R_drewN | apply Kd.R_drew)); exact HO246.out))) (Kd.R_lt (by (with_reducible repeat (first | apply Kd.R_alloc | apply Kd.R_drewN | apply Kd.R_drew)); exact HO251.out))) (Kd.R_lt (by (with_reducible repeat (first | apply Kd.R_alloc | apply Kd.R_drewN | apply Kd.R_drew)); exact HO255.out))) (below_size (by repeat (first | (with_reducible first | exact HB.out | apply below_alloc | apply pw_below_drewN | apply below_drew1 | refine below_set ?_ GE229.out | refine below_set ?_ GE234.out | refine below_set ?_ GE247.out | refine below_set ?_ GE260.out) | exact HB.out))))
                        have n6_ := Aside0.mk (blk_below (g := gb229) (o := .cells #[.int .i64 t226, .int .i64 t227] 37 (0, 0)) (by (with_reducible repeat (first | refine blk_drewN ?_ _ | refine blk_drew ?_ | refine blk_alloc ?_ _)); exact BK229.out) hb)
                        have n7_ := Aside0.mk (blk_below (g := gb234) (o := .cells #[.int .i64 t231, .int .i64 t232] 37 (0, 0)) (by (with_reducible repeat (first | refine blk_drewN ?_ _ | refine blk_drew ?_ | refine blk_alloc ?_ _)); exact BK234.out) hb)
                        have n8_ := Aside0.mk (blk_below (g := gb247) (o := .cells #[.bool t243, .slice Ao66 t244.length co66] 31 (0, 0)) (by (with_reducible repeat (first | refine blk_drewN ?_ _ | refine blk_drew ?_ | refine blk_alloc ?_ _)); exact BK247.out) hb)
                        have n9_ := Aside0.mk (blk_below (g := gb260) (o := .cells #[.bool false, .slice none 0 0] 31 (0, 0)) (by (with_reducible repeat (first | refine blk_drewN ?_ _ | refine blk_drew ?_ | refine blk_alloc ?_ _)); exact BK260.out) hb)
                        have n10_ := Aside0.mk (below_step (by repeat (first | (with_reducible first | exact HB.out | apply below_alloc | apply pw_below_drewN | apply below_drew1 | refine below_set ?_ GE229.out | refine below_set ?_ GE234.out | refine below_set ?_ GE247.out | refine below_set ?_ GE260.out) | exact HB.out)) hb)
                        clear HO238
                        clear HO242
                        clear HO246
                        clear HO251
                        clear HO255
                        clear BK229
                        clear BK234
                        clear BK247
                        clear BK260
                        clear HB
                        have HO238 := n0_
                        have HO242 := n1_
                        have HO246 := n2_
                        have HO251 := n3_
                        have HO255 := n4_
                        have HO259 := n5_
                        have BK229 := n6_
                        have BK234 := n7_
                        have BK247 := n8_
                        have BK260 := n9_
                        have HB := n10_
                        clear n0_ n1_ n2_ n3_ n4_ n5_ n6_ n7_ n8_ n9_ n10_
                        (try clear hb)
                        (try clear hb2)
                        (try clear hk)
                        (try clear hi)
                        (try clear ho0)
                        refine hK.out _ _ ⟨(blk_cell BK234.out 0).trans rfl, (blk_cell BK234.out 1).trans rfl⟩ (fun hHeld => ?_)
                        clear hK K
                        refine norm_ (a' := ?_) ?_ ?_
                        rotate_left
                        · show Act.put _ (some 84) _ = _
                          simp only [Act.put, List.setIfInBounds_toArray, List.set_cons_zero, List.set_cons_succ, i64_w, i32_w]
                          rfl
                        exact norm_ (by simp only [putAll, Act.put, List.setIfInBounds_toArray, List.set_cons_zero, List.set_cons_succ]) (hCont (.slice Ao72 t249.length co72, .slice Ao73 t253.length co73, v258, gb260) _ ⟨hHeld, (by (with_reducible repeat (first | apply Kd.R_alloc | apply Kd.R_drewN | apply Kd.R_drew)); exact Kd.R_mono HO238.out (fun _ hk => ⟨hk.1.1.1.1, ⟨hk.1.1.1.2, ⟨hk.1.1.2, ⟨hk.1.2, hk.2⟩⟩⟩⟩)), (by (with_reducible repeat (first | apply Kd.R_alloc | apply Kd.R_drewN | apply Kd.R_drew)); exact Kd.R_mono HO242.out (fun _ hk => ⟨hk.1.1.1.1, ⟨hk.1.1.1.2, ⟨hk.1.1.2, ⟨hk.1.2, hk.2⟩⟩⟩⟩)), (by (with_reducible repeat (first | apply Kd.R_alloc | apply Kd.R_drewN | apply Kd.R_drew)); exact Kd.R_mono HO246.out (fun _ hk => ⟨hk.1.1.1.1, ⟨hk.1.1.1.2, ⟨hk.1.1.2, ⟨hk.1.2, hk.2⟩⟩⟩⟩)), (by (with_reducible repeat (first | apply Kd.R_alloc | apply Kd.R_drewN | apply Kd.R_drew)); exact Kd.R_mono HO251.out (fun _ hk => ⟨hk.1.1.1.1.2, ⟨hk.1.1.1.2, ⟨hk.1.1.2, ⟨hk.1.2, hk.2⟩⟩⟩⟩)), (by (with_reducible repeat (first | apply Kd.R_alloc | apply Kd.R_drewN | apply Kd.R_drew)); exact Kd.R_mono HO255.out (fun _ hk => ⟨hk.1.1.1.1.2, ⟨hk.1.1.1.2, ⟨hk.1.1.2, ⟨hk.1.2, hk.2⟩⟩⟩⟩)), (by (with_reducible repeat (first | apply Kd.R_alloc | apply Kd.R_drewN | apply Kd.R_drew)); exact Kd.R_mono HO259.out (fun _ hk => ⟨hk.1.1.1.1.2, ⟨hk.1.1.1.2, ⟨hk.1.1.2, ⟨hk.1.2, hk.2⟩⟩⟩⟩)), (by (with_reducible repeat (first | refine blk_drewN ?_ _ | refine blk_drew ?_ | refine blk_alloc ?_ _)); exact BK229.out), (by (with_reducible repeat (first | refine blk_drewN ?_ _ | refine blk_drew ?_ | refine blk_alloc ?_ _)); exact BK234.out), (by (with_reducible repeat (first | refine blk_drewN ?_ _ | refine blk_drew ?_ | refine blk_alloc ?_ _)); exact BK247.out), (by (with_reducible repeat (first | refine blk_drewN ?_ _ | refine blk_drew ?_ | refine blk_alloc ?_ _)); exact BK260.out), GW260.out, GE260.out, NB229_260.out, NB260_229.out, NB234_260.out, NB260_234.out, NB247_260.out, NB260_247.out, (by repeat (first | (with_reducible first | exact HB.out | apply below_alloc | apply pw_below_drewN | apply below_drew1 | refine below_set ?_ GE229.out | refine below_set ?_ GE234.out | refine below_set ?_ GE247.out | refine below_set ?_ GE260.out) | exact HB.out))⟩)
                    · skip
                      refine box_step ?hg (N := 10) ?hd (cs := #[.bool false, .slice none 0 0]) (t := 31) ?hr ?_; (case hd => rfl); (case hg => rfl); (case hr => first | (go_simp; done) | (go_simp; rfl))
                      intro gb260 hg w69 hbox hb
                      have n0_ := Aside0.mk (Kd.R_below (by (with_reducible repeat (first | apply Kd.R_alloc | apply Kd.R_drewN | apply Kd.R_drew)); exact HO238.out) hb)
                      have n1_ := Aside0.mk (Kd.R_below (by (with_reducible repeat (first | apply Kd.R_alloc | apply Kd.R_drewN | apply Kd.R_drew)); exact HO242.out) hb)
                      have n2_ := Aside0.mk (Kd.R_below (by (with_reducible repeat (first | apply Kd.R_alloc | apply Kd.R_drewN | apply Kd.R_drew)); exact HO246.out) hb)
                      have n3_ := Aside0.mk (blk_below (g := gb229) (o := .cells #[.int .i64 t226, .int .i64 t227] 37 (0, 0)) (by (with_reducible repeat (first | refine blk_drewN ?_ _ | refine blk_drew ?_ | refine blk_alloc ?_ _)); exact BK229.out) hb)
                      have n4_ := Aside0.mk (blk_below (g := gb234) (o := .cells #[.int .i64 t231, .int .i64 t232] 37 (0, 0)) (by (with_reducible repeat (first | refine blk_drewN ?_ _ | refine blk_drew ?_ | refine blk_alloc ?_ _)); exact BK234.out) hb)
                      have n5_ := Aside0.mk (blk_below (g := gb247) (o := .cells #[.bool t243, .slice Ao66 t244.length co66] 31 (0, 0)) (by (with_reducible repeat (first | refine blk_drewN ?_ _ | refine blk_drew ?_ | refine blk_alloc ?_ _)); exact BK247.out) hb)
                      have n6_ := Aside0.mk (below_step (by repeat (first | (with_reducible first | exact HB.out | apply below_alloc | apply pw_below_drewN | apply below_drew1 | refine below_set ?_ GE229.out | refine below_set ?_ GE234.out | refine below_set ?_ GE247.out) | exact HB.out)) hb)
                      have n7_ := Aside0.mk (hbox)
                      have n8_ := Aside0.mk ((by rw [hg]; exact (below_size (by repeat (first | (with_reducible first | exact HB.out | apply below_alloc | apply pw_below_drewN | apply below_drew1 | refine below_set ?_ GE229.out | refine below_set ?_ GE234.out | refine below_set ?_ GE247.out) | exact HB.out))) : w.heap.size ≤ gb260))
                      have n9_ := Aside0.mk ((by rw [hg]; exact (below_size (by repeat (first | (with_reducible first | exact HB.out | apply below_alloc | apply pw_below_drewN | apply below_drew1 | refine below_set ?_ GE229.out | refine below_set ?_ GE234.out | refine below_set ?_ GE247.out) | exact HB.out))) : w.heap.size ≤ gb260))
                      have n10_ := Aside0.mk ((by rw [hg]; exact Nat.ne_of_lt (blk_lt (g := gb229) (o := .cells #[.int .i64 t226, .int .i64 t227] 37 (0, 0)) (by (with_reducible repeat (first | refine blk_drewN ?_ _ | refine blk_drew ?_ | refine blk_alloc ?_ _)); exact BK229.out)) : gb229 ≠ gb260))
                      have n11_ := Aside0.mk ((by rw [hg]; exact Nat.ne_of_gt (blk_lt (g := gb229) (o := .cells #[.int .i64 t226, .int .i64 t227] 37 (0, 0)) (by (with_reducible repeat (first | refine blk_drewN ?_ _ | refine blk_drew ?_ | refine blk_alloc ?_ _)); exact BK229.out)) : gb260 ≠ gb229))
                      have n12_ := Aside0.mk ((by rw [hg]; exact Nat.ne_of_lt (blk_lt (g := gb234) (o := .cells #[.int .i64 t231, .int .i64 t232] 37 (0, 0)) (by (with_reducible repeat (first | refine blk_drewN ?_ _ | refine blk_drew ?_ | refine blk_alloc ?_ _)); exact BK234.out)) : gb234 ≠ gb260))
                      have n13_ := Aside0.mk ((by rw [hg]; exact Nat.ne_of_gt (blk_lt (g := gb234) (o := .cells #[.int .i64 t231, .int .i64 t232] 37 (0, 0)) (by (with_reducible repeat (first | refine blk_drewN ?_ _ | refine blk_drew ?_ | refine blk_alloc ?_ _)); exact BK234.out)) : gb260 ≠ gb234))
                      have n14_ := Aside0.mk ((by rw [hg]; exact Nat.ne_of_lt (blk_lt (g := gb247) (o := .cells #[.bool t243, .slice Ao66 t244.length co66] 31 (0, 0)) (by (with_reducible repeat (first | refine blk_drewN ?_ _ | refine blk_drew ?_ | refine blk_alloc ?_ _)); exact BK247.out)) : gb247 ≠ gb260))
                      have n15_ := Aside0.mk ((by rw [hg]; exact Nat.ne_of_gt (blk_lt (g := gb247) (o := .cells #[.bool t243, .slice Ao66 t244.length co66] 31 (0, 0)) (by (with_reducible repeat (first | refine blk_drewN ?_ _ | refine blk_drew ?_ | refine blk_alloc ?_ _)); exact BK247.out)) : gb260 ≠ gb247))
                      clear HO238
                      clear HO242
                      clear HO246
                      clear BK229
                      clear BK234
                      clear BK247
                      clear HB
                      have HO238 := n0_
                      have HO242 := n1_
                      have HO246 := n2_
                      have BK229 := n3_
                      have BK234 := n4_
                      have BK247 := n5_
                      have HB := n6_
                      have BK260 := n7_
                      have GW260 := n8_
                      have GE260 := n9_
                      have NB229_260 := n10_
                      have NB260_229 := n11_
                      have NB234_260 := n12_
                      have NB260_234 := n13_
                      have NB247_260 := n14_
                      have NB260_247 := n15_
                      clear n0_ n1_ n2_ n3_ n4_ n5_ n6_ n7_ n8_ n9_ n10_ n11_ n12_ n13_ n14_ n15_
                      clear hb hbox hg
                      refine hK.out _ _ ⟨(blk_cell BK234.out 0).trans rfl, (blk_cell BK234.out 1).trans rfl⟩ (fun hHeld => ?_)
                      clear hK K
                      refine norm_ (a' := ?_) ?_ ?_
                      rotate_left
                      · show Act.put _ (some 10) _ = _
                        simp only [Act.put, List.setIfInBounds_toArray, List.set_cons_zero, List.set_cons_succ, i64_w, i32_w]
                        rfl
                      refine one_ (i := 1) (N := some 80) #[true, true, true, true, false, false, true, false] rfl rfl (one_of HT_.out (by kernel_rfl)) (by decide) (fun K hK => ?_)
                      refine goes_ Try.func15 (by kernel_rfl) rfl #[.int .i64 a0] (by rfl) rfl rfl (by (try simp only [List.map_toArray, List.map_cons, List.map_nil]); first | done | rfl | (simp only [List.length_drop, List.length_take]; rfl) | (simp only [*]; rfl) | (simp [*]; done) | (simp [*]; (repeat' apply And.intro) <;> rfl)) ?_
                      with_reducible refine (compassref01_Of.calls kj3 a0 t248 t249 _ A45.out).mono ?_
                      rintro e w70 ⟨v250, rfl, ho0, hb⟩
                      refine ⟨_, rfl, ?_⟩
                      have n0_ := Aside0.mk (Kd.R_elder' (by (with_reducible repeat (first | apply Kd.R_alloc | apply Kd.R_drewN | apply Kd.R_drew)); exact HO238.out) (Kd.R_base ho0) hb)
                      have n1_ := Aside0.mk (Kd.R_elder' (by (with_reducible repeat (first | apply Kd.R_alloc | apply Kd.R_drewN | apply Kd.R_drew)); exact HO242.out) (Kd.R_base ho0) hb)
                      have n2_ := Aside0.mk (Kd.R_elder' (by (with_reducible repeat (first | apply Kd.R_alloc | apply Kd.R_drewN | apply Kd.R_drew)); exact HO246.out) (Kd.R_base ho0) hb)
                      have n3_ := Aside0.mk (Kd.R_lower (Kd.R_new' (Kd.R_new' (Kd.R_new' ho0 (Kd.R_lt (by (with_reducible repeat (first | apply Kd.R_alloc | apply Kd.R_drewN | apply Kd.R_drew)); exact HO238.out))) (Kd.R_lt (by (with_reducible repeat (first | apply Kd.R_alloc | apply Kd.R_drewN | apply Kd.R_drew)); exact HO242.out))) (Kd.R_lt (by (with_reducible repeat (first | apply Kd.R_alloc | apply Kd.R_drewN | apply Kd.R_drew)); exact HO246.out))) (below_size (by repeat (first | (with_reducible first | exact HB.out | apply below_alloc | apply pw_below_drewN | apply below_drew1 | refine below_set ?_ GE229.out | refine below_set ?_ GE234.out | refine below_set ?_ GE247.out | refine below_set ?_ GE260.out) | exact HB.out))))
                      have n4_ := Aside0.mk (blk_below (g := gb229) (o := .cells #[.int .i64 t226, .int .i64 t227] 37 (0, 0)) (by (with_reducible repeat (first | refine blk_drewN ?_ _ | refine blk_drew ?_ | refine blk_alloc ?_ _)); exact BK229.out) hb)
                      have n5_ := Aside0.mk (blk_below (g := gb234) (o := .cells #[.int .i64 t231, .int .i64 t232] 37 (0, 0)) (by (with_reducible repeat (first | refine blk_drewN ?_ _ | refine blk_drew ?_ | refine blk_alloc ?_ _)); exact BK234.out) hb)
                      have n6_ := Aside0.mk (blk_below (g := gb247) (o := .cells #[.bool t243, .slice Ao66 t244.length co66] 31 (0, 0)) (by (with_reducible repeat (first | refine blk_drewN ?_ _ | refine blk_drew ?_ | refine blk_alloc ?_ _)); exact BK247.out) hb)
                      have n7_ := Aside0.mk (blk_below (g := gb260) (o := .cells #[.bool false, .slice none 0 0] 31 (0, 0)) (by (with_reducible repeat (first | refine blk_drewN ?_ _ | refine blk_drew ?_ | refine blk_alloc ?_ _)); exact BK260.out) hb)
                      have n8_ := Aside0.mk (below_step (by repeat (first | (with_reducible first | exact HB.out | apply below_alloc | apply pw_below_drewN | apply below_drew1 | refine below_set ?_ GE229.out | refine below_set ?_ GE234.out | refine below_set ?_ GE247.out | refine below_set ?_ GE260.out) | exact HB.out)) hb)
                      clear HO238
                      clear HO242
                      clear HO246
                      clear BK229
                      clear BK234
                      clear BK247
                      clear BK260
                      clear HB
                      have HO238 := n0_
                      have HO242 := n1_
                      have HO246 := n2_
                      have HO251 := n3_
                      have BK229 := n4_
                      have BK234 := n5_
                      have BK247 := n6_
                      have BK260 := n7_
                      have HB := n8_
                      clear n0_ n1_ n2_ n3_ n4_ n5_ n6_ n7_ n8_
                      (try clear hb)
                      (try clear hb2)
                      (try clear hk)
                      (try clear hi)
                      (try clear ho0)
                      refine hK.out _ _ ⟨(blk_cell BK234.out 0).trans rfl, (blk_cell BK234.out 1).trans rfl⟩ (fun hHeld => ?_)
                      clear hK K
                      refine norm_ (a' := ?_) ?_ ?_
                      rotate_left
                      · show Act.put _ (some 80) _ = _
                        simp only [Act.put, List.setIfInBounds_toArray, List.set_cons_zero, List.set_cons_succ, i64_w, i32_w]
                        rfl
                      refine one_ (i := 4) (N := some 83) #[true, true, true, true, true, false, true, false] rfl rfl (one_of HT_.out (by kernel_rfl)) (by decide) (fun K hK => ?_)
                      refine goes_ Try.func15 (by kernel_rfl) rfl #[.int .i64 t232] (by rfl) rfl rfl (by (try simp only [List.map_toArray, List.map_cons, List.map_nil]); first | done | rfl | (simp only [List.length_drop, List.length_take]; rfl) | (simp only [*]; rfl) | (simp [*]; done) | (simp [*]; (repeat' apply And.intro) <;> rfl)) ?_
                      with_reducible refine (compassref01_Of.calls kj3 t232 t252 t253 _ A46.out).mono ?_
                      rintro e w71 ⟨v254, rfl, ho0, hb⟩
                      refine ⟨_, rfl, ?_⟩
                      have n0_ := Aside0.mk (Kd.R_elder' (by (with_reducible repeat (first | apply Kd.R_alloc | apply Kd.R_drewN | apply Kd.R_drew)); exact HO238.out) (Kd.R_base ho0) hb)
                      have n1_ := Aside0.mk (Kd.R_elder' (by (with_reducible repeat (first | apply Kd.R_alloc | apply Kd.R_drewN | apply Kd.R_drew)); exact HO242.out) (Kd.R_base ho0) hb)
                      have n2_ := Aside0.mk (Kd.R_elder' (by (with_reducible repeat (first | apply Kd.R_alloc | apply Kd.R_drewN | apply Kd.R_drew)); exact HO246.out) (Kd.R_base ho0) hb)
                      have n3_ := Aside0.mk (Kd.R_elder' (by (with_reducible repeat (first | apply Kd.R_alloc | apply Kd.R_drewN | apply Kd.R_drew)); exact HO251.out) (Kd.R_base ho0) hb)
                      have n4_ := Aside0.mk (Kd.R_lower (Kd.R_new' (Kd.R_new' (Kd.R_new' (Kd.R_new' ho0 (Kd.R_lt (by (with_reducible repeat (first | apply Kd.R_alloc | apply Kd.R_drewN | apply Kd.R_drew)); exact HO238.out))) (Kd.R_lt (by (with_reducible repeat (first | apply Kd.R_alloc | apply Kd.R_drewN | apply Kd.R_drew)); exact HO242.out))) (Kd.R_lt (by (with_reducible repeat (first | apply Kd.R_alloc | apply Kd.R_drewN | apply Kd.R_drew)); exact HO246.out))) (Kd.R_lt (by (with_reducible repeat (first | apply Kd.R_alloc | apply Kd.R_drewN | apply Kd.R_drew)); exact HO251.out))) (below_size (by repeat (first | (with_reducible first | exact HB.out | apply below_alloc | apply pw_below_drewN | apply below_drew1 | refine below_set ?_ GE229.out | refine below_set ?_ GE234.out | refine below_set ?_ GE247.out | refine below_set ?_ GE260.out) | exact HB.out))))
                      have n5_ := Aside0.mk (blk_below (g := gb229) (o := .cells #[.int .i64 t226, .int .i64 t227] 37 (0, 0)) (by (with_reducible repeat (first | refine blk_drewN ?_ _ | refine blk_drew ?_ | refine blk_alloc ?_ _)); exact BK229.out) hb)
                      have n6_ := Aside0.mk (blk_below (g := gb234) (o := .cells #[.int .i64 t231, .int .i64 t232] 37 (0, 0)) (by (with_reducible repeat (first | refine blk_drewN ?_ _ | refine blk_drew ?_ | refine blk_alloc ?_ _)); exact BK234.out) hb)
                      have n7_ := Aside0.mk (blk_below (g := gb247) (o := .cells #[.bool t243, .slice Ao66 t244.length co66] 31 (0, 0)) (by (with_reducible repeat (first | refine blk_drewN ?_ _ | refine blk_drew ?_ | refine blk_alloc ?_ _)); exact BK247.out) hb)
                      have n8_ := Aside0.mk (blk_below (g := gb260) (o := .cells #[.bool false, .slice none 0 0] 31 (0, 0)) (by (with_reducible repeat (first | refine blk_drewN ?_ _ | refine blk_drew ?_ | refine blk_alloc ?_ _)); exact BK260.out) hb)
                      have n9_ := Aside0.mk (below_step (by repeat (first | (with_reducible first | exact HB.out | apply below_alloc | apply pw_below_drewN | apply below_drew1 | refine below_set ?_ GE229.out | refine below_set ?_ GE234.out | refine below_set ?_ GE247.out | refine below_set ?_ GE260.out) | exact HB.out)) hb)
                      clear HO238
                      clear HO242
                      clear HO246
                      clear HO251
                      clear BK229
                      clear BK234
                      clear BK247
                      clear BK260
                      clear HB
                      have HO238 := n0_
                      have HO242 := n1_
                      have HO246 := n2_
                      have HO251 := n3_
                      have HO255 := n4_
                      have BK229 := n5_
                      have BK234 := n6_
                      have BK247 := n7_
                      have BK260 := n8_
                      have HB := n9_
                      clear n0_ n1_ n2_ n3_ n4_ n5_ n6_ n7_ n8_ n9_
                      (try clear hb)
                      (try clear hb2)
                      (try clear hk)
                      (try clear hi)
                      (try clear ho0)
                      obtain ⟨Ao72, co72, eo72⟩ := Kd.R_slice HO251.out
                      (first | subst eo72 | (injection eo72 with f1_ f2_ f3_; have f4_ := f1_.symm; have f5_ := f3_.symm; clear f1_ f2_ f3_; subst f4_; subst f5_))
                      obtain ⟨Ao73, co73, eo73⟩ := Kd.R_slice HO255.out
                      (first | subst eo73 | (injection eo73 with f1_ f2_ f3_; have f4_ := f1_.symm; have f5_ := f3_.symm; clear f1_ f2_ f3_; subst f4_; subst f5_))
                      refine hK.out _ _ ⟨(blk_cell BK234.out 0).trans rfl, (blk_cell BK234.out 1).trans rfl⟩ (fun hHeld => ?_)
                      clear hK K
                      refine norm_ (a' := ?_) ?_ ?_
                      rotate_left
                      · show Act.put _ (some 83) _ = _
                        simp only [Act.put, List.setIfInBounds_toArray, List.set_cons_zero, List.set_cons_succ, i64_w, i32_w]
                        rfl
                      refine one_ (i := 5) (N := some 84) #[true, true, true, true, true, true, true, false] rfl rfl (one_of HT_.out (by kernel_rfl)) (by decide) (fun K hK => ?_)
                      refine goes_ Try.func14 (by kernel_rfl) rfl #[.agg #[.bool t248, .slice Ao72 t249.length co72], .agg #[.bool t252, .slice Ao73 t253.length co73]] (by rfl) rfl rfl (by (try simp only [List.map_toArray, List.map_cons, List.map_nil]); first | done | rfl | (simp only [List.length_drop, List.length_take]; rfl) | (simp only [*]; rfl) | (simp [*]; done) | (simp [*]; (repeat' apply And.intro) <;> rfl)) ?_
                      with_reducible refine (compassref01_Times.calls kj3 t248 _ _ t249 t252 _ _ t253 t256 t257 _ ?side1 ?side2 ?side3 ?side4 A47.out).mono ?_
                      (case side1 => repeat (first | exact (Kd.R_reads' HO251.out).2.2 | (with_reducible refine Kd.C_alloc ?_ _) | (with_reducible refine Kd.C_drewN ?_ _) | (with_reducible refine Kd.C_drew ?_)))
                      (case side2 => exact (Kd.R_reads' HO251.out).2.1)
                      (case side3 => repeat (first | exact (Kd.R_reads' HO255.out).2.2 | (with_reducible refine Kd.C_alloc ?_ _) | (with_reducible refine Kd.C_drewN ?_ _) | (with_reducible refine Kd.C_drew ?_)))
                      (case side4 => exact (Kd.R_reads' HO255.out).2.1)
                      rintro e w74 ⟨v258, rfl, ho0, hb⟩
                      refine ⟨_, rfl, ?_⟩
                      have n0_ := Aside0.mk (Kd.R_elder' (by (with_reducible repeat (first | apply Kd.R_alloc | apply Kd.R_drewN | apply Kd.R_drew)); exact HO238.out) (Kd.R_base ho0) hb)
                      have n1_ := Aside0.mk (Kd.R_elder' (by (with_reducible repeat (first | apply Kd.R_alloc | apply Kd.R_drewN | apply Kd.R_drew)); exact HO242.out) (Kd.R_base ho0) hb)
                      have n2_ := Aside0.mk (Kd.R_elder' (by (with_reducible repeat (first | apply Kd.R_alloc | apply Kd.R_drewN | apply Kd.R_drew)); exact HO246.out) (Kd.R_base ho0) hb)
                      have n3_ := Aside0.mk (Kd.R_elder' (by (with_reducible repeat (first | apply Kd.R_alloc | apply Kd.R_drewN | apply Kd.R_drew)); exact HO251.out) (Kd.R_base ho0) hb)
                      have n4_ := Aside0.mk (Kd.R_elder' (by (with_reducible repeat (first | apply Kd.R_alloc | apply Kd.R_drewN | apply Kd.R_drew)); exact HO255.out) (Kd.R_base ho0) hb)
                      have n5_ := Aside0.mk (Kd.R_lower (Kd.R_new' (Kd.R_new' (Kd.R_new' (Kd.R_new' (Kd.R_new' ho0 (Kd.R_lt (by (with_reducible repeat (first | apply Kd.R_alloc | apply Kd.R_drewN | apply Kd.R_drew)); exact HO238.out))) (Kd.R_lt (by (with_reducible repeat (first | apply Kd.R_alloc | apply Kd.R_drewN | apply Kd.R_drew)); exact HO242.out))) (Kd.R_lt (by (with_reducible repeat (first | apply Kd.R_alloc | apply Kd.R_drewN | apply Kd.R_drew)); exact HO246.out))) (Kd.R_lt (by (with_reducible repeat (first | apply Kd.R_alloc | apply Kd.R_drewN | apply Kd.R_drew)); exact HO251.out))) (Kd.R_lt (by (with_reducible repeat (first | apply Kd.R_alloc | apply Kd.R_drewN | apply Kd.R_drew)); exact HO255.out))) (below_size (by repeat (first | (with_reducible first | exact HB.out | apply below_alloc | apply pw_below_drewN | apply below_drew1 | refine below_set ?_ GE229.out | refine below_set ?_ GE234.out | refine below_set ?_ GE247.out | refine below_set ?_ GE260.out) | exact HB.out))))
                      have n6_ := Aside0.mk (blk_below (g := gb229) (o := .cells #[.int .i64 t226, .int .i64 t227] 37 (0, 0)) (by (with_reducible repeat (first | refine blk_drewN ?_ _ | refine blk_drew ?_ | refine blk_alloc ?_ _)); exact BK229.out) hb)
                      have n7_ := Aside0.mk (blk_below (g := gb234) (o := .cells #[.int .i64 t231, .int .i64 t232] 37 (0, 0)) (by (with_reducible repeat (first | refine blk_drewN ?_ _ | refine blk_drew ?_ | refine blk_alloc ?_ _)); exact BK234.out) hb)
                      have n8_ := Aside0.mk (blk_below (g := gb247) (o := .cells #[.bool t243, .slice Ao66 t244.length co66] 31 (0, 0)) (by (with_reducible repeat (first | refine blk_drewN ?_ _ | refine blk_drew ?_ | refine blk_alloc ?_ _)); exact BK247.out) hb)
                      have n9_ := Aside0.mk (blk_below (g := gb260) (o := .cells #[.bool false, .slice none 0 0] 31 (0, 0)) (by (with_reducible repeat (first | refine blk_drewN ?_ _ | refine blk_drew ?_ | refine blk_alloc ?_ _)); exact BK260.out) hb)
                      have n10_ := Aside0.mk (below_step (by repeat (first | (with_reducible first | exact HB.out | apply below_alloc | apply pw_below_drewN | apply below_drew1 | refine below_set ?_ GE229.out | refine below_set ?_ GE234.out | refine below_set ?_ GE247.out | refine below_set ?_ GE260.out) | exact HB.out)) hb)
                      clear HO238
                      clear HO242
                      clear HO246
                      clear HO251
                      clear HO255
                      clear BK229
                      clear BK234
                      clear BK247
                      clear BK260
                      clear HB
                      have HO238 := n0_
                      have HO242 := n1_
                      have HO246 := n2_
                      have HO251 := n3_
                      have HO255 := n4_
                      have HO259 := n5_
                      have BK229 := n6_
                      have BK234 := n7_
                      have BK247 := n8_
                      have BK260 := n9_
                      have HB := n10_
                      clear n0_ n1_ n2_ n3_ n4_ n5_ n6_ n7_ n8_ n9_ n10_
                      (try clear hb)
                      (try clear hb2)
                      (try clear hk)
                      (try clear hi)
                      (try clear ho0)
                      refine hK.out _ _ ⟨(blk_cell BK234.out 0).trans rfl, (blk_cell BK234.out 1).trans rfl⟩ (fun hHeld => ?_)
                      clear hK K
                      refine norm_ (a' := ?_) ?_ ?_
                      rotate_left
                      · show Act.put _ (some 84) _ = _
                        simp only [Act.put, List.setIfInBounds_toArray, List.set_cons_zero, List.set_cons_succ, i64_w, i32_w]
                        rfl
                      exact norm_ (by simp only [putAll, Act.put, List.setIfInBounds_toArray, List.set_cons_zero, List.set_cons_succ]) (hCont (.slice Ao72 t249.length co72, .slice Ao73 t253.length co73, v258, gb260) _ ⟨hHeld, (by (with_reducible repeat (first | apply Kd.R_alloc | apply Kd.R_drewN | apply Kd.R_drew)); exact Kd.R_mono HO238.out (fun _ hk => ⟨hk.1.1.1.1, ⟨hk.1.1.1.2, ⟨hk.1.1.2, ⟨hk.1.2, hk.2⟩⟩⟩⟩)), (by (with_reducible repeat (first | apply Kd.R_alloc | apply Kd.R_drewN | apply Kd.R_drew)); exact Kd.R_mono HO242.out (fun _ hk => ⟨hk.1.1.1.1, ⟨hk.1.1.1.2, ⟨hk.1.1.2, ⟨hk.1.2, hk.2⟩⟩⟩⟩)), (by (with_reducible repeat (first | apply Kd.R_alloc | apply Kd.R_drewN | apply Kd.R_drew)); exact Kd.R_mono HO246.out (fun _ hk => ⟨hk.1.1.1.1, ⟨hk.1.1.1.2, ⟨hk.1.1.2, ⟨hk.1.2, hk.2⟩⟩⟩⟩)), (by (with_reducible repeat (first | apply Kd.R_alloc | apply Kd.R_drewN | apply Kd.R_drew)); exact Kd.R_mono HO251.out (fun _ hk => ⟨hk.1.1.1.1.2, ⟨hk.1.1.1.2, ⟨hk.1.1.2, ⟨hk.1.2, hk.2⟩⟩⟩⟩)), (by (with_reducible repeat (first | apply Kd.R_alloc | apply Kd.R_drewN | apply Kd.R_drew)); exact Kd.R_mono HO255.out (fun _ hk => ⟨hk.1.1.1.1.2, ⟨hk.1.1.1.2, ⟨hk.1.1.2, ⟨hk.1.2, hk.2⟩⟩⟩⟩)), (by (with_reducible repeat (first | apply Kd.R_alloc | apply Kd.R_drewN | apply Kd.R_drew)); exact Kd.R_mono HO259.out (fun _ hk => ⟨hk.1.1.1.1.2, ⟨hk.1.1.1.2, ⟨hk.1.1.2, ⟨hk.1.2, hk.2⟩⟩⟩⟩)), (by (with_reducible repeat (first | refine blk_drewN ?_ _ | refine blk_drew ?_ | refine blk_alloc ?_ _)); exact BK229.out), (by (with_reducible repeat (first | refine blk_drewN ?_ _ | refine blk_drew ?_ | refine blk_alloc ?_ _)); exact BK234.out), (by (with_reducible repeat (first | refine blk_drewN ?_ _ | refine blk_drew ?_ | refine blk_alloc ?_ _)); exact BK247.out), (by (with_reducible repeat (first | refine blk_drewN ?_ _ | refine blk_drew ?_ | refine blk_alloc ?_ _)); exact BK260.out), GW260.out, GE260.out, NB229_260.out, NB260_229.out, NB234_260.out, NB260_234.out, NB247_260.out, NB260_247.out, (by repeat (first | (with_reducible first | exact HB.out | apply below_alloc | apply pw_below_drewN | apply below_drew1 | refine below_set ?_ GE229.out | refine below_set ?_ GE234.out | refine below_set ?_ GE247.out | refine below_set ?_ GE260.out) | exact HB.out))⟩)
                  rintro ⟨v250, v254, v258, gb260⟩ w75 ⟨hS_, h0_, h1_, h2_, h3_, h4_, h5_, h6_, h7_, h8_, h9_, h10_, h11_, h12_, h13_, h14_, h15_, h16_, h17_, h18_⟩
                  have n0_ : Aside0 (Kd.R (Kd.int .u64) 22 w75 w.heap.size (fun k_ => some k_ ≠ (.slice Ao60 t240.length co60 : Value).ownBlock ∧ some k_ ≠ (.slice Ao66 t244.length co66 : Value).ownBlock ∧ some k_ ≠ (v250 : Value).ownBlock ∧ some k_ ≠ (v254 : Value).ownBlock ∧ some k_ ≠ (v258 : Value).ownBlock) (.slice Ao59 t236.length co59) t236) := ⟨h0_⟩
                  have n1_ : Aside0 (Kd.R (Kd.int .u64) 22 w75 w.heap.size (fun k_ => some k_ ≠ (.slice Ao59 t236.length co59 : Value).ownBlock ∧ some k_ ≠ (.slice Ao66 t244.length co66 : Value).ownBlock ∧ some k_ ≠ (v250 : Value).ownBlock ∧ some k_ ≠ (v254 : Value).ownBlock ∧ some k_ ≠ (v258 : Value).ownBlock) (.slice Ao60 t240.length co60) t240) := ⟨h1_⟩
                  have n2_ : Aside0 (Kd.R (Kd.int .u64) 22 w75 w.heap.size (fun k_ => some k_ ≠ (.slice Ao59 t236.length co59 : Value).ownBlock ∧ some k_ ≠ (.slice Ao60 t240.length co60 : Value).ownBlock ∧ some k_ ≠ (v250 : Value).ownBlock ∧ some k_ ≠ (v254 : Value).ownBlock ∧ some k_ ≠ (v258 : Value).ownBlock) (.slice Ao66 t244.length co66) t244) := ⟨h2_⟩
                  have n3_ : Aside0 (Kd.R (Kd.int .u64) 22 w75 w.heap.size (fun k_ => some k_ ≠ (.slice Ao59 t236.length co59 : Value).ownBlock ∧ some k_ ≠ (.slice Ao60 t240.length co60 : Value).ownBlock ∧ some k_ ≠ (.slice Ao66 t244.length co66 : Value).ownBlock ∧ some k_ ≠ (v254 : Value).ownBlock ∧ some k_ ≠ (v258 : Value).ownBlock) v250 t249) := ⟨h3_⟩
                  have n4_ : Aside0 (Kd.R (Kd.int .u64) 22 w75 w.heap.size (fun k_ => some k_ ≠ (.slice Ao59 t236.length co59 : Value).ownBlock ∧ some k_ ≠ (.slice Ao60 t240.length co60 : Value).ownBlock ∧ some k_ ≠ (.slice Ao66 t244.length co66 : Value).ownBlock ∧ some k_ ≠ (v250 : Value).ownBlock ∧ some k_ ≠ (v258 : Value).ownBlock) v254 t253) := ⟨h4_⟩
                  have n5_ : Aside0 (Kd.R (Kd.int .u64) 22 w75 w.heap.size (fun k_ => some k_ ≠ (.slice Ao59 t236.length co59 : Value).ownBlock ∧ some k_ ≠ (.slice Ao60 t240.length co60 : Value).ownBlock ∧ some k_ ≠ (.slice Ao66 t244.length co66 : Value).ownBlock ∧ some k_ ≠ (v250 : Value).ownBlock ∧ some k_ ≠ (v254 : Value).ownBlock) v258 t257) := ⟨h5_⟩
                  have n6_ : Aside0 (w75.heap[gb229]? = some (.cells #[.int .i64 t226, .int .i64 t227] 37 (0, 0))) := ⟨h6_⟩
                  have n7_ : Aside0 (w75.heap[gb234]? = some (.cells #[.int .i64 t231, .int .i64 t232] 37 (0, 0))) := ⟨h7_⟩
                  have n8_ : Aside0 (w75.heap[gb247]? = some (.cells #[.bool t243, .slice Ao66 t244.length co66] 31 (0, 0))) := ⟨h8_⟩
                  have n9_ : Aside0 (w75.heap[gb260]? = some (.cells #[.bool false, .slice none 0 0] 31 (0, 0))) := ⟨h9_⟩
                  have n10_ : Aside0 (w.heap.size ≤ gb260) := ⟨h10_⟩
                  have n11_ : Aside0 (w.heap.size ≤ gb260) := ⟨h11_⟩
                  have n12_ : Aside0 (gb229 ≠ gb260) := ⟨h12_⟩
                  have n13_ : Aside0 (gb260 ≠ gb229) := ⟨h13_⟩
                  have n14_ : Aside0 (gb234 ≠ gb260) := ⟨h14_⟩
                  have n15_ : Aside0 (gb260 ≠ gb234) := ⟨h15_⟩
                  have n16_ : Aside0 (gb247 ≠ gb260) := ⟨h16_⟩
                  have n17_ : Aside0 (gb260 ≠ gb247) := ⟨h17_⟩
                  have n18_ : Aside0 (Below w.heap.size w w75) := ⟨h18_⟩
                  clear HO238
                  clear HO242
                  clear HO246
                  clear BK229
                  clear BK234
                  clear BK247
                  clear HB
                  clear h0_ h1_ h2_ h3_ h4_ h5_ h6_ h7_ h8_ h9_ h10_ h11_ h12_ h13_ h14_ h15_ h16_ h17_ h18_
                  have HO238 := n0_
                  have HO242 := n1_
                  have HO246 := n2_
                  have HO251 := n3_
                  have HO255 := n4_
                  have HO259 := n5_
                  have BK229 := n6_
                  have BK234 := n7_
                  have BK247 := n8_
                  have BK260 := n9_
                  have GW260 := n10_
                  have GE260 := n11_
                  have NB229_260 := n12_
                  have NB260_229 := n13_
                  have NB234_260 := n14_
                  have NB260_234 := n15_
                  have NB247_260 := n16_
                  have NB260_247 := n17_
                  have HB := n18_
                  clear n0_ n1_ n2_ n3_ n4_ n5_ n6_ n7_ n8_ n9_ n10_ n11_ n12_ n13_ n14_ n15_ n16_ n17_ n18_
                  have hHeld : w75.cell? ⟨gb234, 0, none⟩ = some (.int .i64 t231) ∧ w75.cell? ⟨gb234, 1, none⟩ = some (.int .i64 t232) := hS_
                  obtain ⟨Ao77, co77, eo77⟩ := Kd.R_slice HO259.out
                  (first | subst eo77 | (injection eo77 with f1_ f2_ f3_; have f4_ := f1_.symm; have f5_ := f3_.symm; clear f1_ f2_ f3_; subst f4_; subst f5_))
                  refine norm_ (a' := ?_) ?_ ?_
                  rotate_left
                  · simp only [putAll, Act.put, List.setIfInBounds_toArray, List.set_cons_zero, List.set_cons_succ]
                    rfl
                  refine one_ (i := 7) (N := none) #[true, true, true, true, true, true, true, true] rfl rfl (one_of HT_.out (by kernel_rfl)) (by decide) (fun K hK => ?_)
                  have hs76 : w75.cell? ⟨gb260, 0, none⟩ = some (.bool false) := (blk_cell BK260.out 0).trans rfl
                  have hfs76 := blk_frozen BK260.out 0
                  have hns76_0 := NB229_260.out
                  have hns76_1 := NB234_260.out
                  have hns76_2 := NB247_260.out
                  have hms76_0 := NB260_229.out
                  have hms76_1 := NB260_234.out
                  have hms76_2 := NB260_247.out
                  have hs78 : w75.cell? ⟨gb260, 1, none⟩ = some (.slice none 0 0) := (blk_cell BK260.out 1).trans rfl
                  have hfs78 := blk_frozen BK260.out 1
                  have hns78_0 := NB229_260.out
                  have hns78_1 := NB234_260.out
                  have hns78_2 := NB247_260.out
                  have hms78_0 := NB260_229.out
                  have hms78_1 := NB260_234.out
                  have hms78_2 := NB260_247.out
                  refine skip_ (w1 := ?_) (by rfl) rfl ?_ ?_
                  rotate_left
                  · go_simp
                    rfl
                  refine hK.out _ _ ⟨((cell_far (p := ⟨gb260, _, none⟩) NB234_260.out _).trans (((cell_far (p := ⟨gb260, _, none⟩) NB234_260.out _).trans (hHeld.1)))), ((cell_far (p := ⟨gb260, _, none⟩) NB234_260.out _).trans (((cell_far (p := ⟨gb260, _, none⟩) NB234_260.out _).trans (hHeld.2))))⟩ (fun hHeld => ?_)
                  clear hK K
                  refine done_ (done_of HT_.out (by kernel_rfl)) ?_
                  have hnb79 := NB234_260.out
                  have hnc79 := NB260_234.out
                  have hcz80_0 : w75.cell? ⟨gb234, 0, none⟩ = some (.int .i64 t231) := (blk_cell BK234.out 0).trans rfl
                  have hcz80_1 : w75.cell? ⟨gb234, 1, none⟩ = some (.int .i64 t232) := (blk_cell BK234.out 1).trans rfl
                  have hfz80_0 := blk_frozen BK234.out 0
                  have hfz80_1 := blk_frozen BK234.out 1
                  try go_wp2_with (first | (go_at_call 10; (with_reducible refine (safeint_Gcd.calls kj3 t231 t232 t261 _ A50.out).mono ?_); rintro e w' ⟨rfl, ⟨nd, rfl⟩⟩; have hnb81 := NB247_260.out; have hnc81 := NB260_247.out; have hcz82_0 : w75.cell? ⟨gb247, 0, none⟩ = some (.bool t243) := (blk_cell BK247.out 0).trans rfl; have hcz82_1 : w75.cell? ⟨gb247, 1, none⟩ = some (.slice Ao66 t244.length co66) := (blk_cell BK247.out 1).trans rfl; have hfz82_0 := blk_frozen BK247.out 0; have hfz82_1 := blk_frozen BK247.out 1; have hnb83 := NB260_229.out; have hnc83 := NB229_260.out; have hcz84_0 : w75.cell? ⟨gb260, 0, none⟩ = some (.bool false) := (blk_cell BK260.out 0).trans rfl; have hcz84_1 : w75.cell? ⟨gb260, 1, none⟩ = some (.slice none 0 0) := (blk_cell BK260.out 1).trans rfl; have hfz84_0 := blk_frozen BK260.out 0; have hfz84_1 := blk_frozen BK260.out 1) | (go_at_call 16; (with_reducible refine (compassref01_Compare.calls kj3 t243 _ _ t244 t256 _ _ t257 t262 _ ?side1 ?side2 ?side3 ?side4 A52.out).mono ?_); (case side1 => refine (Kd.R_reads' (e := 22) (base := w.heap.size) (ok := fun k_ => (some k_ ≠ (.slice Ao59 t236.length co59 : Value).ownBlock ∧ (some k_ ≠ (.slice Ao60 t240.length co60 : Value).ownBlock ∧ (some k_ ≠ (v250 : Value).ownBlock ∧ (some k_ ≠ (v254 : Value).ownBlock ∧ some k_ ≠ (.slice Ao77 t257.length co77 : Value).ownBlock))))) (n := t244.length) (c := co66) ?_).2.2; exact (by (with_reducible repeat (first | apply Kd.R_alloc | apply Kd.R_drewN | apply Kd.R_drew)); exact (Kd.R_mono (Kd.R_far (p := ⟨gb260, 1, none⟩) (Kd.R_far (p := ⟨gb260, 0, none⟩) (Kd.R_types HO246.out BK260.out (by decide)) (fun _ hk => hk.2) (.bool t256)) (fun _ hk => hk.2) (.slice Ao77 t257.length co77)) (fun _ h_ => h_.1)))); (case side2 => exact (Kd.R_reads' HO246.out).2.1); (case side3 => refine (Kd.R_reads' (e := 22) (base := w.heap.size) (ok := fun k_ => (some k_ ≠ (.slice Ao59 t236.length co59 : Value).ownBlock ∧ (some k_ ≠ (.slice Ao60 t240.length co60 : Value).ownBlock ∧ (some k_ ≠ (.slice Ao66 t244.length co66 : Value).ownBlock ∧ (some k_ ≠ (v250 : Value).ownBlock ∧ some k_ ≠ (v254 : Value).ownBlock))))) (n := t257.length) (c := co77) ?_).2.2; exact (by (with_reducible repeat (first | apply Kd.R_alloc | apply Kd.R_drewN | apply Kd.R_drew)); exact (Kd.R_mono (Kd.R_far (p := ⟨gb260, 1, none⟩) (Kd.R_far (p := ⟨gb260, 0, none⟩) (Kd.R_types HO259.out BK260.out (by decide)) (fun _ hk => hk.2) (.bool t256)) (fun _ hk => hk.2) (.slice Ao77 t257.length co77)) (fun _ h_ => h_.1)))); (case side4 => exact (Kd.R_reads' HO259.out).2.1); rintro e w85 ⟨rfl, hb⟩; have n0_ := Aside0.mk (Kd.R_below (by (with_reducible repeat (first | apply Kd.R_alloc | apply Kd.R_drewN | apply Kd.R_drew)); exact (Kd.R_mono (Kd.R_far (p := ⟨gb260, 1, none⟩) (Kd.R_far (p := ⟨gb260, 0, none⟩) (Kd.R_types HO238.out BK260.out (by decide)) (fun _ hk => hk.2) (.bool t256)) (fun _ hk => hk.2) (.slice Ao77 t257.length co77)) (fun _ h_ => h_.1))) hb); have n1_ := Aside0.mk (Kd.R_below (by (with_reducible repeat (first | apply Kd.R_alloc | apply Kd.R_drewN | apply Kd.R_drew)); exact (Kd.R_mono (Kd.R_far (p := ⟨gb260, 1, none⟩) (Kd.R_far (p := ⟨gb260, 0, none⟩) (Kd.R_types HO242.out BK260.out (by decide)) (fun _ hk => hk.2) (.bool t256)) (fun _ hk => hk.2) (.slice Ao77 t257.length co77)) (fun _ h_ => h_.1))) hb); have n2_ := Aside0.mk (Kd.R_below (by (with_reducible repeat (first | apply Kd.R_alloc | apply Kd.R_drewN | apply Kd.R_drew)); exact (Kd.R_mono (Kd.R_far (p := ⟨gb260, 1, none⟩) (Kd.R_far (p := ⟨gb260, 0, none⟩) (Kd.R_types HO246.out BK260.out (by decide)) (fun _ hk => hk.2) (.bool t256)) (fun _ hk => hk.2) (.slice Ao77 t257.length co77)) (fun _ h_ => h_.1))) hb); have n3_ := Aside0.mk (Kd.R_below (by (with_reducible repeat (first | apply Kd.R_alloc | apply Kd.R_drewN | apply Kd.R_drew)); exact (Kd.R_mono (Kd.R_far (p := ⟨gb260, 1, none⟩) (Kd.R_far (p := ⟨gb260, 0, none⟩) (Kd.R_types HO251.out BK260.out (by decide)) (fun _ hk => hk.2) (.bool t256)) (fun _ hk => hk.2) (.slice Ao77 t257.length co77)) (fun _ h_ => h_.1))) hb); have n4_ := Aside0.mk (Kd.R_below (by (with_reducible repeat (first | apply Kd.R_alloc | apply Kd.R_drewN | apply Kd.R_drew)); exact (Kd.R_mono (Kd.R_far (p := ⟨gb260, 1, none⟩) (Kd.R_far (p := ⟨gb260, 0, none⟩) (Kd.R_types HO255.out BK260.out (by decide)) (fun _ hk => hk.2) (.bool t256)) (fun _ hk => hk.2) (.slice Ao77 t257.length co77)) (fun _ h_ => h_.1))) hb); have n5_ := Aside0.mk (Kd.R_below (by (with_reducible repeat (first | apply Kd.R_alloc | apply Kd.R_drewN | apply Kd.R_drew)); exact (Kd.R_mono (Kd.R_far (p := ⟨gb260, 1, none⟩) (Kd.R_far (p := ⟨gb260, 0, none⟩) (Kd.R_types HO259.out BK260.out (by decide)) (fun _ hk => hk.2) (.bool t256)) (fun _ hk => hk.2) (.slice Ao77 t257.length co77)) (fun _ h_ => h_.1))) hb); have n6_ := Aside0.mk (blk_below (g := gb229) (o := .cells #[.int .i64 t226, .int .i64 t227] 37 (0, 0)) (by (with_reducible repeat (first | refine blk_drewN ?_ _ | refine blk_drew ?_ | refine blk_alloc ?_ _)); refine blk_far ?_ NB229_260.out _; (with_reducible repeat (first | refine blk_drewN ?_ _ | refine blk_drew ?_ | refine blk_alloc ?_ _)); refine blk_far ?_ NB229_260.out _; (with_reducible repeat (first | refine blk_drewN ?_ _ | refine blk_drew ?_ | refine blk_alloc ?_ _)); exact BK229.out) hb); have n7_ := Aside0.mk (blk_below (g := gb234) (o := .cells #[.int .i64 t231, .int .i64 t232] 37 (0, 0)) (by (with_reducible repeat (first | refine blk_drewN ?_ _ | refine blk_drew ?_ | refine blk_alloc ?_ _)); refine blk_far ?_ NB234_260.out _; (with_reducible repeat (first | refine blk_drewN ?_ _ | refine blk_drew ?_ | refine blk_alloc ?_ _)); refine blk_far ?_ NB234_260.out _; (with_reducible repeat (first | refine blk_drewN ?_ _ | refine blk_drew ?_ | refine blk_alloc ?_ _)); exact BK234.out) hb); have n8_ := Aside0.mk (blk_below (g := gb247) (o := .cells #[.bool t243, .slice Ao66 t244.length co66] 31 (0, 0)) (by (with_reducible repeat (first | refine blk_drewN ?_ _ | refine blk_drew ?_ | refine blk_alloc ?_ _)); refine blk_far ?_ NB247_260.out _; (with_reducible repeat (first | refine blk_drewN ?_ _ | refine blk_drew ?_ | refine blk_alloc ?_ _)); refine blk_far ?_ NB247_260.out _; (with_reducible repeat (first | refine blk_drewN ?_ _ | refine blk_drew ?_ | refine blk_alloc ?_ _)); exact BK247.out) hb); have n9_ := Aside0.mk (blk_below (g := gb260) (o := .cells #[.bool t256, .slice Ao77 t257.length co77] 31 (0, 0)) (by (with_reducible repeat (first | refine blk_drewN ?_ _ | refine blk_drew ?_ | refine blk_alloc ?_ _)); refine blk_put (cs := #[.bool t256, .slice none 0 0]) ?_ 1 _ rfl; (with_reducible repeat (first | refine blk_drewN ?_ _ | refine blk_drew ?_ | refine blk_alloc ?_ _)); refine blk_put (cs := #[.bool false, .slice none 0 0]) ?_ 0 _ rfl; (with_reducible repeat (first | refine blk_drewN ?_ _ | refine blk_drew ?_ | refine blk_alloc ?_ _)); exact BK260.out) hb); have n10_ := Aside0.mk (below_step (by repeat (first | (with_reducible first | exact HB.out | apply below_alloc | apply pw_below_drewN | apply below_drew1 | refine below_set ?_ GE229.out | refine below_set ?_ GE234.out | refine below_set ?_ GE247.out | refine below_set ?_ GE260.out) | exact HB.out)) hb); clear HO238; clear HO242; clear HO246; clear HO251; clear HO255; clear HO259; clear BK229; clear BK234; clear BK247; clear BK260; clear HB; have HO238 := n0_; have HO242 := n1_; have HO246 := n2_; have HO251 := n3_; have HO255 := n4_; have HO259 := n5_; have BK229 := n6_; have BK234 := n7_; have BK247 := n8_; have BK260 := n9_; have HB := n10_; clear n0_ n1_ n2_ n3_ n4_ n5_ n6_ n7_ n8_ n9_ n10_; (try clear hb); (try clear hb2); (try clear hk); (try clear hi)))
                  go_ret
                  exact ⟨by first | rfl | (simp [errW_none, errW_some] <;> rfl) | (simp [*, errW_none, errW_some] <;> rfl), by repeat (first | (with_reducible first | exact HB.out | apply below_alloc | apply pw_below_drewN | apply below_drew1 | refine below_set ?_ GE229.out | refine below_set ?_ GE234.out | refine below_set ?_ GE247.out | refine below_set ?_ GE260.out) | exact HB.out)⟩
                · rw [if_neg c51] at H
                  have c51b0 : (t261 == 1) = false := beq_eq_false_iff_ne.mpr c51
                  have c51b1 : (t261 != 1) = true := bne_iff_ne.mpr c51
                  exact absurd ((Option.some.inj H).trans HR_.out) (by decide)
              · rw [if_neg c49] at H
                have c49b0 : decide (0 < t232) = false := decide_eq_false c49
                clear c49
                exact absurd ((Option.some.inj H).trans HR_.out) (by decide)
            · rw [if_neg c48] at H
              have c48b0 : (t233 == 0) = false := beq_eq_false_iff_ne.mpr c48
              have c48b1 : (t233 != 0) = true := bne_iff_ne.mpr c48
              exact absurd ((Option.some.inj H).trans HR_.out) (by decide)

/-- THE ONE PURE STATEMENT of compasslaw01_SafeRatios: yours. -/
def compasslaw01_SafeRatios.Pure : Prop := ∀ (a0 : Int) (a1 : Int), (Lit.int .i64 a0).wf = true → (Lit.int .i64 a1).wf = true → ∃ k, compasslaw01_SafeRatios.f k a0 a1 = some true
theorem compasslaw01_SafeRatios.walk (P : compasslaw01_SafeRatios.Pure) (a0 : Int) (a1 : Int) (w : World) (w0 : (Lit.int .i64 a0).wf = true) (w1 : (Lit.int .i64 a1).wf = true) :
    Calls Try.prog 5 #[.int .i64 a0, .int .i64 a1] w fun e w' => e = .returned (.bool true) ∧ Below w.heap.size w w' := by
  obtain ⟨k, h⟩ := P a0 a1 w0 w1
  refine (compasslaw01_SafeRatios.calls k a0 a1 true w rfl h).mono ?_
  rintro e w' ⟨rfl, hd⟩
  exact ⟨rfl, hd⟩

end Go.Proofs.Ytofcjoccnbegdaa.Q
