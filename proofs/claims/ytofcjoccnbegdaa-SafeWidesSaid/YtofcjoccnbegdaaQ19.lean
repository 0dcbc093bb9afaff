-- PRINTED by print.py (a twelfth state) out of the translation. Not trusted: Lean checks it.
import Derived.Test.YtofcjoccnbegdaaQ0
import Derived.Test.YtofcjoccnbegdaaQ7
import Derived.Test.YtofcjoccnbegdaaQ8
import Derived.Test.YtofcjoccnbegdaaQ9
import Derived.Test.YtofcjoccnbegdaaQ13
import Derived.Test.YtofcjoccnbegdaaQ14
import Derived.Test.YtofcjoccnbegdaaQ16
import Derived.Test.YtofcjoccnbegdaaQ17
import Derived.Test.YtofcjoccnbegdaaQ18
namespace Go.Proofs.Ytofcjoccnbegdaa.Q
open Go.RowKit Go.Proofs.YtofcjoccnbegdaaW.PrintWords Go.Proofs.YtofcjoccnbegdaaW.PrintLast Go.Proofs.YtofcjoccnbegdaaW.PrintMore
attribute [local go_sem] max2_int min2_int max_two min_two max_three min_three max_four min_four   -- for this text's walks alone
set_option linter.unusedVariables false
set_option linter.unusedSimpArgs false

set_option maxHeartbeats 8000000 in
set_option maxRecDepth 100000 in
theorem compasslaw01_SafeWides.calls (k : Nat) (a0_0 : Int) (a0_1 : Int) (a1_0 : Int) (a1_1 : Int) (a2 : Int) (r : Bool) (w : World) (hr_ : r = true) (h : compasslaw01_SafeWides.f k a0_0 a0_1 a1_0 a1_1 a2 = some r) :
    Calls Try.prog 7 #[.agg #[.int .i64 a0_0, .int .u64 a0_1], .agg #[.int .i64 a1_0, .int .u64 a1_1], .int .i64 a2] w fun e w' => e = .returned (.bool r) ∧ Below w.heap.size w w' := by
 have hu50 := Try.underlying50
 have hu31 := Try.underlying31
 have HB := ak (Below.refl w.heap.size w)
 have HR_ := ak hr_
 clear hr_
 have H : ((compasslaw01_awake.f).bind fun t391 => (if t391 = true then ((safeint_Product.f (-1) 1).bind fun bt392 => (compasslaw01_SafeWides.j0 k a2 (!(bt392.1 == (-1)) || (!(bt392.2 == 18446744073709551615))) a0_0 a0_1 a1_0 a1_1)) else (compasslaw01_SafeWides.j0 k a2 true a0_0 a0_1 a1_0 a1_1))) = some r := h
 clear h
 have HC4 := ak H
 clear H
 go_enter Try.func7, Try.ntmps7
 go_upto_region 1 with (first | ((with_reducible refine gate_dst (N := 3) rfl ?_); refine box_event ?hg (N := 3) ?hd (cs := #[.int .i64 a0_0, .int .u64 a0_1]) (t := 50) ?hr ?_; (case hd => rfl); (case hg => rfl); (case hr => first | (go_simp; done) | (go_simp; rfl)); intro gb389 hg w5 hbox hb; have n0_ := ak (below_step (by repeat (first | (with_reducible first | exact HB.out | apply below_alloc | apply pw_below_drewN | apply below_drew1) | exact HB.out)) hb); have n1_ := ak (hbox); have n2_ := ak ((by rw [hg]; exact (below_size (by repeat (first | (with_reducible first | exact HB.out | apply below_alloc | apply pw_below_drewN | apply below_drew1) | exact HB.out))) : w.heap.size ≤ gb389)); have n3_ := ak ((by rw [hg]; exact (below_size (by repeat (first | (with_reducible first | exact HB.out | apply below_alloc | apply pw_below_drewN | apply below_drew1) | exact HB.out))) : w.heap.size ≤ gb389)); clear HB; have HB := n0_; have BK389 := n1_; have GW389 := n2_; have GE389 := n3_; clear n0_ n1_ n2_ n3_; clear hb hbox hg) | ((with_reducible refine gate_dst (N := 4) rfl ?_); refine box_event ?hg (N := 4) ?hd (cs := #[.int .i64 a1_0, .int .u64 a1_1]) (t := 50) ?hr ?_; (case hd => rfl); (case hg => rfl); (case hr => first | (go_simp; done) | (go_simp; rfl)); intro gb390 hg w6 hbox hb; have n0_ := ak (blk_below (g := gb389) (o := .cells #[.int .i64 a0_0, .int .u64 a0_1] 50 (0, 0)) (bx BK389.out) hb); have n1_ := ak (below_step (by repeat (first | (with_reducible first | exact HB.out | apply below_alloc | apply pw_below_drewN | apply below_drew1 | refine below_set ?_ GE389.out) | exact HB.out)) hb); have n2_ := ak (hbox); have n3_ := ak ((by rw [hg]; exact (below_size (by repeat (first | (with_reducible first | exact HB.out | apply below_alloc | apply pw_below_drewN | apply below_drew1 | refine below_set ?_ GE389.out) | exact HB.out))) : w.heap.size ≤ gb390)); have n4_ := ak ((by rw [hg]; exact (below_size (by repeat (first | (with_reducible first | exact HB.out | apply below_alloc | apply pw_below_drewN | apply below_drew1 | refine below_set ?_ GE389.out) | exact HB.out))) : w.heap.size ≤ gb390)); have n5_ := ak ((by rw [hg]; exact Nat.ne_of_lt (blk_lt (g := gb389) (o := .cells #[.int .i64 a0_0, .int .u64 a0_1] 50 (0, 0)) (bx BK389.out)) : gb389 ≠ gb390)); have n6_ := ak ((by rw [hg]; exact Nat.ne_of_gt (blk_lt (g := gb389) (o := .cells #[.int .i64 a0_0, .int .u64 a0_1] 50 (0, 0)) (bx BK389.out)) : gb390 ≠ gb389)); clear BK389; clear HB; have BK389 := n0_; have HB := n1_; have BK390 := n2_; have GW390 := n3_; have GE390 := n4_; have NB389_390 := n5_; have NB390_389 := n6_; clear n0_ n1_ n2_ n3_ n4_ n5_ n6_; clear hb hbox hg))
 (try simp only [Act.put, List.setIfInBounds_toArray, List.set_cons_zero, List.set_cons_succ])
 go_cut [21] (fun v21 wc => ∃ (kq : Nat) (x21_3 : Bool), v21 = .bool x21_3 ∧ Aside0 (compasslaw01_SafeWides.j0 kq a2 x21_3 a0_0 a0_1 a1_0 a1_1 = some r) ∧ Aside0 (kq ≤ k) ∧ Aside0 (wc.heap[gb389]? = some (.cells #[.int .i64 a0_0, .int .u64 a0_1] 50 (0, 0))) ∧ Aside0 (wc.heap[gb390]? = some (.cells #[.int .i64 a1_0, .int .u64 a1_1] 50 (0, 0))) ∧ Aside0 (Below w.heap.size w wc))
 case first =>
  have H := HC4.out
  clear HC4
  replace H := Option.bind_eq_some_iff.mp H
  obtain ⟨t391, A70, H⟩ := H
  replace H : (if t391 = true then ((safeint_Product.f (-1) 1).bind fun bt392 => (compasslaw01_SafeWides.j0 k a2 (!(bt392.1 == (-1)) || (!(bt392.2 == 18446744073709551615))) a0_0 a0_1 a1_0 a1_1)) else (compasslaw01_SafeWides.j0 k a2 true a0_0 a0_1 a1_0 a1_1)) = some r := H
  have A7 := ak A70
  clear A70
  by_cases c8 : t391 = true
  ·
   subst c8
   have H1 : ((safeint_Product.f (-1) 1).bind fun bt392 => (compasslaw01_SafeWides.j0 k a2 (!(bt392.1 == (-1)) || (!(bt392.2 == 18446744073709551615))) a0_0 a0_1 a1_0 a1_1)) = some r := by rw [if_pos rfl] at H; exact H
   clear H
   have H := H1
   clear H1
   replace H := Option.bind_eq_some_iff.mp H
   obtain ⟨⟨t392, t393⟩, A90, H⟩ := H
   replace H : (compasslaw01_SafeWides.j0 k a2 (!(t392 == (-1)) || (!(t393 == 18446744073709551615))) a0_0 a0_1 a1_0 a1_1) = some r := H
   have A9 := ak A90
   clear A90
   have H' := ak H
   clear H
   go_wp2_with (first | ((with_reducible refine gate_callee (f := 21) rfl ?_); refine goesL_ (some 15) rfl rfl Try.func21 (by kernel_rfl) rfl #[] rfl (by (try simp only [List.map_toArray, List.map_cons, List.map_nil]); first | done | rfl | (simp only [List.length_drop, List.length_take]; rfl)) ?_; (with_reducible refine (compasslaw01_awake.calls  true _ A7.out).mono ?_); rintro e w10 ⟨rfl, hb⟩; refine ⟨_, rfl, ?_⟩; have n0_ := ak (blk_below (g := gb389) (o := .cells #[.int .i64 a0_0, .int .u64 a0_1] 50 (0, 0)) (bx BK389.out) hb); have n1_ := ak (blk_below (g := gb390) (o := .cells #[.int .i64 a1_0, .int .u64 a1_1] 50 (0, 0)) (bx BK390.out) hb); have n2_ := ak (below_step (by repeat (first | (with_reducible first | exact HB.out | apply below_alloc | apply pw_below_drewN | apply below_drew1 | refine below_set ?_ GE389.out | refine below_set ?_ GE390.out) | exact HB.out)) hb); clear BK389; clear BK390; clear HB; have BK389 := n0_; have BK390 := n1_; have HB := n2_; clear n0_ n1_ n2_; (try clear hb); (try clear hb2); (try clear hk); (try clear hi)) | (go_at_call 22; (with_reducible refine (safeint_Product.calls (-1) 1 t392 t393 _ A9.out).mono ?_); rintro e w11 ⟨rfl, hb⟩; have n0_ := ak (blk_below (g := gb389) (o := .cells #[.int .i64 a0_0, .int .u64 a0_1] 50 (0, 0)) (bx BK389.out) hb); have n1_ := ak (blk_below (g := gb390) (o := .cells #[.int .i64 a1_0, .int .u64 a1_1] 50 (0, 0)) (bx BK390.out) hb); have n2_ := ak (below_step (by repeat (first | (with_reducible first | exact HB.out | apply below_alloc | apply pw_below_drewN | apply below_drew1 | refine below_set ?_ GE389.out | refine below_set ?_ GE390.out) | exact HB.out)) hb); clear BK389; clear BK390; clear HB; have BK389 := n0_; have BK390 := n1_; have HB := n2_; clear n0_ n1_ n2_; (try clear hb); (try clear hb2); (try clear hk); (try clear hi)))
   all_goals (go_meet; (case rel => exact ⟨_, ((!(t392 == (-1)) || (!(t393 == 18446744073709551615)))), (by first | rfl | (simp; done) | (simp [*]; done)), H', ⟨by first | omega | exact Nat.le_refl _⟩, ⟨by exact bx BK389.out⟩, ⟨by exact bx BK390.out⟩, ⟨by repeat (first | (with_reducible first | exact HB.out | apply below_alloc | apply pw_below_drewN | apply below_drew1 | refine below_set ?_ GE389.out | refine below_set ?_ GE390.out) | exact HB.out)⟩⟩))

  ·
   replace c8 := Bool.eq_false_iff.mpr c8
   subst c8
   have H1 : (compasslaw01_SafeWides.j0 k a2 true a0_0 a0_1 a1_0 a1_1) = some r := by rw [if_neg (show ¬ (false = true) by decide)] at H; exact H
   clear H
   have H := H1
   clear H1
   have H' := ak H
   clear H
   go_wp2_with (first | ((with_reducible refine gate_callee (f := 21) rfl ?_); refine goesL_ (some 15) rfl rfl Try.func21 (by kernel_rfl) rfl #[] rfl (by (try simp only [List.map_toArray, List.map_cons, List.map_nil]); first | done | rfl | (simp only [List.length_drop, List.length_take]; rfl)) ?_; (with_reducible refine (compasslaw01_awake.calls  false _ A7.out).mono ?_); rintro e w12 ⟨rfl, hb⟩; refine ⟨_, rfl, ?_⟩; have n0_ := ak (blk_below (g := gb389) (o := .cells #[.int .i64 a0_0, .int .u64 a0_1] 50 (0, 0)) (bx BK389.out) hb); have n1_ := ak (blk_below (g := gb390) (o := .cells #[.int .i64 a1_0, .int .u64 a1_1] 50 (0, 0)) (bx BK390.out) hb); have n2_ := ak (below_step (by repeat (first | (with_reducible first | exact HB.out | apply below_alloc | apply pw_below_drewN | apply below_drew1 | refine below_set ?_ GE389.out | refine below_set ?_ GE390.out) | exact HB.out)) hb); clear BK389; clear BK390; clear HB; have BK389 := n0_; have BK390 := n1_; have HB := n2_; clear n0_ n1_ n2_; (try clear hb); (try clear hb2); (try clear hk); (try clear hi)))
   go_meet
   case rel => exact ⟨_, (true), (by first | rfl | (simp; done) | (simp [*]; done)), H', ⟨by first | omega | exact Nat.le_refl _⟩, ⟨by exact bx BK389.out⟩, ⟨by exact bx BK390.out⟩, ⟨by repeat (first | (with_reducible first | exact HB.out | apply below_alloc | apply pw_below_drewN | apply below_drew1 | refine below_set ?_ GE389.out | refine below_set ?_ GE390.out) | exact HB.out)⟩⟩
 case rest =>
  clear HC4
  try clear c2
  try clear p2
  try clear c7
  try clear c8
  obtain ⟨kq, x21_3, rfl, HA, HJ3, BK389, BK390, HB⟩ := hcut
  cases kq with
  | zero => exact absurd HA.out (by simp [compasslaw01_SafeWides.j0])
  | succ kj3 =>
   have H := HA.out
   clear HA
   simp only [compasslaw01_SafeWides.j0] at H
   by_cases c13 : x21_3 = true
   ·
    subst c13
    have H1 : (some false) = some r := by rw [if_pos rfl] at H; exact H
    clear H
    have H := H1
    clear H1
    exact absurd ((Option.some.inj H).trans HR_.out) (by decide)
   ·
    replace c13 := Bool.eq_false_iff.mpr c13
    subst c13
    have H1 : ((safeint_Product.f a2 a0_0).bind fun bt394 => ((compasslaw01_wide.f kj3 bt394.1 bt394.2).bind fun bt397 => ((compassref01_Of.f kj3 a2).bind fun bt401 => ((compassref01_Of.f kj3 a0_0).bind fun bt405 => ((compassref01_Times.f kj3 bt401.1 bt401.2 bt405.1 bt405.2).bind fun bt409 => ((compassref01_Compare.f kj3 bt397.1 bt397.2 bt409.1 bt409.2).bind fun t413 => (if t413 = 0 then ((safeint_Compare.f kj3 a0_0 a0_1 a1_0 a1_1).bind fun t414 => ((compasslaw01_wide.f kj3 a0_0 a0_1).bind fun bt415 => ((compasslaw01_wide.f kj3 a1_0 a1_1).bind fun bt419 => ((compassref01_Compare.f kj3 bt415.1 bt415.2 bt419.1 bt419.2).bind fun t423 => (if t414 = t423 then ((safeint_Compare.f kj3 a0_0 a0_1 a0_0 a0_1).bind fun t424 => (compasslaw01_SafeWides.j1 kj3 a2 (t424 != 0) a0_0 a0_1 a1_0 a1_1)) else (compasslaw01_SafeWides.j1 kj3 a2 true a0_0 a0_1 a1_0 a1_1)))))) else (some false)))))))) = some r := by rw [if_neg (show ¬ (false = true) by decide)] at H; exact H
    clear H
    have H := H1
    clear H1
    replace H := Option.bind_eq_some_iff.mp H
    obtain ⟨⟨t394, t395⟩, A140, H⟩ := H
    replace H : ((compasslaw01_wide.f kj3 t394 t395).bind fun bt397 => ((compassref01_Of.f kj3 a2).bind fun bt401 => ((compassref01_Of.f kj3 a0_0).bind fun bt405 => ((compassref01_Times.f kj3 bt401.1 bt401.2 bt405.1 bt405.2).bind fun bt409 => ((compassref01_Compare.f kj3 bt397.1 bt397.2 bt409.1 bt409.2).bind fun t413 => (if t413 = 0 then ((safeint_Compare.f kj3 a0_0 a0_1 a1_0 a1_1).bind fun t414 => ((compasslaw01_wide.f kj3 a0_0 a0_1).bind fun bt415 => ((compasslaw01_wide.f kj3 a1_0 a1_1).bind fun bt419 => ((compassref01_Compare.f kj3 bt415.1 bt415.2 bt419.1 bt419.2).bind fun t423 => (if t414 = t423 then ((safeint_Compare.f kj3 a0_0 a0_1 a0_0 a0_1).bind fun t424 => (compasslaw01_SafeWides.j1 kj3 a2 (t424 != 0) a0_0 a0_1 a1_0 a1_1)) else (compasslaw01_SafeWides.j1 kj3 a2 true a0_0 a0_1 a1_0 a1_1)))))) else (some false))))))) = some r := H
    have A14 := ak A140
    clear A140
    replace H := Option.bind_eq_some_iff.mp H
    obtain ⟨⟨t397, t398⟩, A150, H⟩ := H
    replace H : ((compassref01_Of.f kj3 a2).bind fun bt401 => ((compassref01_Of.f kj3 a0_0).bind fun bt405 => ((compassref01_Times.f kj3 bt401.1 bt401.2 bt405.1 bt405.2).bind fun bt409 => ((compassref01_Compare.f kj3 t397 t398 bt409.1 bt409.2).bind fun t413 => (if t413 = 0 then ((safeint_Compare.f kj3 a0_0 a0_1 a1_0 a1_1).bind fun t414 => ((compasslaw01_wide.f kj3 a0_0 a0_1).bind fun bt415 => ((compasslaw01_wide.f kj3 a1_0 a1_1).bind fun bt419 => ((compassref01_Compare.f kj3 bt415.1 bt415.2 bt419.1 bt419.2).bind fun t423 => (if t414 = t423 then ((safeint_Compare.f kj3 a0_0 a0_1 a0_0 a0_1).bind fun t424 => (compasslaw01_SafeWides.j1 kj3 a2 (t424 != 0) a0_0 a0_1 a1_0 a1_1)) else (compasslaw01_SafeWides.j1 kj3 a2 true a0_0 a0_1 a1_0 a1_1)))))) else (some false)))))) = some r := H
    have A15 := ak A150
    clear A150
    replace H := Option.bind_eq_some_iff.mp H
    obtain ⟨⟨t401, t402⟩, A160, H⟩ := H
    replace H : ((compassref01_Of.f kj3 a0_0).bind fun bt405 => ((compassref01_Times.f kj3 t401 t402 bt405.1 bt405.2).bind fun bt409 => ((compassref01_Compare.f kj3 t397 t398 bt409.1 bt409.2).bind fun t413 => (if t413 = 0 then ((safeint_Compare.f kj3 a0_0 a0_1 a1_0 a1_1).bind fun t414 => ((compasslaw01_wide.f kj3 a0_0 a0_1).bind fun bt415 => ((compasslaw01_wide.f kj3 a1_0 a1_1).bind fun bt419 => ((compassref01_Compare.f kj3 bt415.1 bt415.2 bt419.1 bt419.2).bind fun t423 => (if t414 = t423 then ((safeint_Compare.f kj3 a0_0 a0_1 a0_0 a0_1).bind fun t424 => (compasslaw01_SafeWides.j1 kj3 a2 (t424 != 0) a0_0 a0_1 a1_0 a1_1)) else (compasslaw01_SafeWides.j1 kj3 a2 true a0_0 a0_1 a1_0 a1_1)))))) else (some false))))) = some r := H
    have A16 := ak A160
    clear A160
    replace H := Option.bind_eq_some_iff.mp H
    obtain ⟨⟨t405, t406⟩, A170, H⟩ := H
    replace H : ((compassref01_Times.f kj3 t401 t402 t405 t406).bind fun bt409 => ((compassref01_Compare.f kj3 t397 t398 bt409.1 bt409.2).bind fun t413 => (if t413 = 0 then ((safeint_Compare.f kj3 a0_0 a0_1 a1_0 a1_1).bind fun t414 => ((compasslaw01_wide.f kj3 a0_0 a0_1).bind fun bt415 => ((compasslaw01_wide.f kj3 a1_0 a1_1).bind fun bt419 => ((compassref01_Compare.f kj3 bt415.1 bt415.2 bt419.1 bt419.2).bind fun t423 => (if t414 = t423 then ((safeint_Compare.f kj3 a0_0 a0_1 a0_0 a0_1).bind fun t424 => (compasslaw01_SafeWides.j1 kj3 a2 (t424 != 0) a0_0 a0_1 a1_0 a1_1)) else (compasslaw01_SafeWides.j1 kj3 a2 true a0_0 a0_1 a1_0 a1_1)))))) else (some false)))) = some r := H
    have A17 := ak A170
    clear A170
    replace H := Option.bind_eq_some_iff.mp H
    obtain ⟨⟨t409, t410⟩, A180, H⟩ := H
    replace H : ((compassref01_Compare.f kj3 t397 t398 t409 t410).bind fun t413 => (if t413 = 0 then ((safeint_Compare.f kj3 a0_0 a0_1 a1_0 a1_1).bind fun t414 => ((compasslaw01_wide.f kj3 a0_0 a0_1).bind fun bt415 => ((compasslaw01_wide.f kj3 a1_0 a1_1).bind fun bt419 => ((compassref01_Compare.f kj3 bt415.1 bt415.2 bt419.1 bt419.2).bind fun t423 => (if t414 = t423 then ((safeint_Compare.f kj3 a0_0 a0_1 a0_0 a0_1).bind fun t424 => (compasslaw01_SafeWides.j1 kj3 a2 (t424 != 0) a0_0 a0_1 a1_0 a1_1)) else (compasslaw01_SafeWides.j1 kj3 a2 true a0_0 a0_1 a1_0 a1_1)))))) else (some false))) = some r := H
    have A18 := ak A180
    clear A180
    replace H := Option.bind_eq_some_iff.mp H
    obtain ⟨t413, A190, H⟩ := H
    replace H : (if t413 = 0 then ((safeint_Compare.f kj3 a0_0 a0_1 a1_0 a1_1).bind fun t414 => ((compasslaw01_wide.f kj3 a0_0 a0_1).bind fun bt415 => ((compasslaw01_wide.f kj3 a1_0 a1_1).bind fun bt419 => ((compassref01_Compare.f kj3 bt415.1 bt415.2 bt419.1 bt419.2).bind fun t423 => (if t414 = t423 then ((safeint_Compare.f kj3 a0_0 a0_1 a0_0 a0_1).bind fun t424 => (compasslaw01_SafeWides.j1 kj3 a2 (t424 != 0) a0_0 a0_1 a1_0 a1_1)) else (compasslaw01_SafeWides.j1 kj3 a2 true a0_0 a0_1 a1_0 a1_1)))))) else (some false)) = some r := H
    have A19 := ak A190
    clear A190
    by_cases c20 : t413 = 0
    ·
     rw [if_pos c20] at H
     have c20b0 : (t413 == 0) = true := beq_iff_eq.mpr c20
     have c20b1 : (t413 != 0) = false := bne_eq_false_iff_eq.mpr c20
     clear c20
     have HC21 := ak H
     clear H
     have hnb22 := NB389_390.out
     have hnc22 := NB390_389.out
     have hcz23_0 : wc.cell? ⟨gb389, 0, none⟩ = some (.int .i64 a0_0) := (blk_cell BK389.out 0).trans rfl
     have hcz23_1 : wc.cell? ⟨gb389, 1, none⟩ = some (.int .u64 a0_1) := (blk_cell BK389.out 1).trans rfl
     have hfz23_0 := blk_frozen BK389.out 0
     have hfz23_1 := blk_frozen BK389.out 1
     try go_wp2_with (first | ((with_reducible refine gate_callee (f := 22) rfl ?_); refine goesL_ (some 25) rfl rfl Try.func22 (by kernel_rfl) rfl #[.int .i64 a2, .int .i64 a0_0] rfl (by (try simp only [List.map_toArray, List.map_cons, List.map_nil]); first | done | rfl | (simp only [List.length_drop, List.length_take]; rfl)) ?_; (with_reducible refine (safeint_Product.calls a2 a0_0 t394 t395 _ A14.out).mono ?_); rintro e w24 ⟨rfl, hb⟩; refine ⟨_, rfl, ?_⟩; have n0_ := ak (blk_below (g := gb389) (o := .cells #[.int .i64 a0_0, .int .u64 a0_1] 50 (0, 0)) (bx BK389.out) hb); have n1_ := ak (blk_below (g := gb390) (o := .cells #[.int .i64 a1_0, .int .u64 a1_1] 50 (0, 0)) (bx BK390.out) hb); have n2_ := ak (below_step (by repeat (first | (with_reducible first | exact HB.out | apply below_alloc | apply pw_below_drewN | apply below_drew1 | refine below_set ?_ GE389.out | refine below_set ?_ GE390.out) | exact HB.out)) hb); clear BK389; clear BK390; clear HB; have BK389 := n0_; have BK390 := n1_; have HB := n2_; clear n0_ n1_ n2_; (try clear hb); (try clear hb2); (try clear hk); (try clear hi)) | ((with_reducible refine gate_dst (N := 7) rfl ?_); refine box_event ?hg (N := 7) ?hd (cs := #[.int .i64 0, .int .u64 0]) (t := 50) ?hr ?_; (case hd => rfl); (case hg => rfl); (case hr => first | (go_simp; done) | (go_simp; rfl)); intro gb396 hg w25 hbox hb; have n0_ := ak (blk_below (g := gb389) (o := .cells #[.int .i64 a0_0, .int .u64 a0_1] 50 (0, 0)) (bx BK389.out) hb); have n1_ := ak (blk_below (g := gb390) (o := .cells #[.int .i64 a1_0, .int .u64 a1_1] 50 (0, 0)) (bx BK390.out) hb); have n2_ := ak (below_step (by repeat (first | (with_reducible first | exact HB.out | apply below_alloc | apply pw_below_drewN | apply below_drew1 | refine below_set ?_ GE389.out | refine below_set ?_ GE390.out) | exact HB.out)) hb); have n3_ := ak (hbox); have n4_ := ak ((by rw [hg]; exact (below_size (by repeat (first | (with_reducible first | exact HB.out | apply below_alloc | apply pw_below_drewN | apply below_drew1 | refine below_set ?_ GE389.out | refine below_set ?_ GE390.out) | exact HB.out))) : w.heap.size ≤ gb396)); have n5_ := ak ((by rw [hg]; exact (below_size (by repeat (first | (with_reducible first | exact HB.out | apply below_alloc | apply pw_below_drewN | apply below_drew1 | refine below_set ?_ GE389.out | refine below_set ?_ GE390.out) | exact HB.out))) : w.heap.size ≤ gb396)); have n6_ := ak ((by rw [hg]; exact Nat.ne_of_lt (blk_lt (g := gb389) (o := .cells #[.int .i64 a0_0, .int .u64 a0_1] 50 (0, 0)) (bx BK389.out)) : gb389 ≠ gb396)); have n7_ := ak ((by rw [hg]; exact Nat.ne_of_gt (blk_lt (g := gb389) (o := .cells #[.int .i64 a0_0, .int .u64 a0_1] 50 (0, 0)) (bx BK389.out)) : gb396 ≠ gb389)); have n8_ := ak ((by rw [hg]; exact Nat.ne_of_lt (blk_lt (g := gb390) (o := .cells #[.int .i64 a1_0, .int .u64 a1_1] 50 (0, 0)) (bx BK390.out)) : gb390 ≠ gb396)); have n9_ := ak ((by rw [hg]; exact Nat.ne_of_gt (blk_lt (g := gb390) (o := .cells #[.int .i64 a1_0, .int .u64 a1_1] 50 (0, 0)) (bx BK390.out)) : gb396 ≠ gb390)); clear BK389; clear BK390; clear HB; have BK389 := n0_; have BK390 := n1_; have HB := n2_; have BK396 := n3_; have GW396 := n4_; have GE396 := n5_; have NB389_396 := n6_; have NB396_389 := n7_; have NB390_396 := n8_; have NB396_390 := n9_; clear n0_ n1_ n2_ n3_ n4_ n5_ n6_ n7_ n8_ n9_; clear hb hbox hg; have hnb26 := NB396_389.out; have hnc26 := NB389_396.out; have hnb27 := NB396_390.out; have hnc27 := NB390_396.out; have hcz28_0 : w25.cell? ⟨gb396, 0, none⟩ = some (.int .i64 0) := (blk_cell BK396.out 0).trans rfl; have hcz28_1 : w25.cell? ⟨gb396, 1, none⟩ = some (.int .u64 0) := (blk_cell BK396.out 1).trans rfl; have hfz28_0 := blk_frozen BK396.out 0; have hfz28_1 := blk_frozen BK396.out 1))
     have n0_ : Aside0 (((w25.setCell ⟨gb396, 0, none⟩ (.int .i64 t394)).setCell ⟨gb396, 1, none⟩ (.int .u64 t395)).heap[gb389]? = some (.cells #[.int .i64 a0_0, .int .u64 a0_1] 50 (0, 0))) := ⟨by (with_reducible repeat (first | refine blk_drewN ?_ _ | refine blk_drew ?_ | refine blk_alloc ?_ _)); refine blk_far ?_ NB389_396.out _; (with_reducible repeat (first | refine blk_drewN ?_ _ | refine blk_drew ?_ | refine blk_alloc ?_ _)); refine blk_far ?_ NB389_396.out _; exact bx BK389.out⟩
     have n1_ : Aside0 (((w25.setCell ⟨gb396, 0, none⟩ (.int .i64 t394)).setCell ⟨gb396, 1, none⟩ (.int .u64 t395)).heap[gb390]? = some (.cells #[.int .i64 a1_0, .int .u64 a1_1] 50 (0, 0))) := ⟨by (with_reducible repeat (first | refine blk_drewN ?_ _ | refine blk_drew ?_ | refine blk_alloc ?_ _)); refine blk_far ?_ NB390_396.out _; (with_reducible repeat (first | refine blk_drewN ?_ _ | refine blk_drew ?_ | refine blk_alloc ?_ _)); refine blk_far ?_ NB390_396.out _; exact bx BK390.out⟩
     have n2_ : Aside0 (((w25.setCell ⟨gb396, 0, none⟩ (.int .i64 t394)).setCell ⟨gb396, 1, none⟩ (.int .u64 t395)).heap[gb396]? = some (.cells #[.int .i64 t394, .int .u64 t395] 50 (0, 0))) := ⟨by (with_reducible repeat (first | refine blk_drewN ?_ _ | refine blk_drew ?_ | refine blk_alloc ?_ _)); refine blk_put (cs := #[.int .i64 t394, .int .u64 0]) ?_ 1 _ rfl; (with_reducible repeat (first | refine blk_drewN ?_ _ | refine blk_drew ?_ | refine blk_alloc ?_ _)); refine blk_put (cs := #[.int .i64 0, .int .u64 0]) ?_ 0 _ rfl; exact bx BK396.out⟩
     have n3_ : Aside0 (Below w.heap.size w ((w25.setCell ⟨gb396, 0, none⟩ (.int .i64 t394)).setCell ⟨gb396, 1, none⟩ (.int .u64 t395))) := ⟨by repeat (first | (with_reducible first | exact HB.out | apply below_alloc | apply pw_below_drewN | apply below_drew1 | refine below_set ?_ GE389.out | refine below_set ?_ GE390.out | refine below_set ?_ GE396.out) | exact HB.out)⟩
     (try clear BK389)
     (try clear BK390)
     (try clear BK396)
     (try clear HB)
     generalize ((w25.setCell ⟨gb396, 0, none⟩ (.int .i64 t394)).setCell ⟨gb396, 1, none⟩ (.int .u64 t395)) = w29 at n0_ n1_ n2_ n3_ ⊢
     have BK389 := n0_
     have BK390 := n1_
     have BK396 := n2_
     have HB := n3_
     clear n0_ n1_ n2_ n3_
     have n0_ := ak (blk_drew BK389.out)
     have n1_ := ak (blk_drew BK390.out)
     have n2_ := ak (blk_drew BK396.out)
     have n3_ := ak (below_drew1 HB.out)
     clear BK389
     clear BK390
     clear BK396
     clear HB
     have BK389 := n0_
     have BK390 := n1_
     have BK396 := n2_
     have HB := n3_
     clear n0_ n1_ n2_ n3_
     refine start_ (n := 10) (S := fun w' => w'.cell? ⟨gb396, 0, none⟩ = some (.int .i64 t394) ∧ w'.cell? ⟨gb396, 1, none⟩ = some (.int .u64 t395) ∧ w'.cell? ⟨gb389, 0, none⟩ = some (.int .i64 a0_0) ∧ w'.cell? ⟨gb389, 1, none⟩ = some (.int .u64 a0_1)) (ds := []) #[false, false, false, false, false, false, false, false, false, false] (by kernel_rfl) rfl rfl ⟨(blk_cell BK396.out 0).trans rfl, (blk_cell BK396.out 1).trans rfl, (blk_cell BK389.out 0).trans rfl, (blk_cell BK389.out 1).trans rfl⟩ (fun hHeld => ?_); refine with_tabW compasslaw01_SafeWides.tab4 compasslaw01_SafeWides.bits4 (fun HT_ HW_ => ?_)
     generalize w29.drew = w30 at BK389 BK390 BK396 HB hHeld ⊢
     refine pure_ (i := 2) (N := some 28) (v := ?_) (a' := ?_) #[false, false, true, false, false, false, false, false, false, false] rfl rfl (any_of HT_.out (by kernel_rfl)) (fun _ _ _ h => h) (Or.inl ⟨by rfl, ?_⟩) ?_ ?_
     rotate_left
     ·
      intro w'
      go_simp
      with_reducible rfl
     rotate_left
     ·
      simp only [Act.put, List.setIfInBounds_toArray, List.set_cons_zero, List.set_cons_succ, i64_w, i32_w]
      rfl
     refine pure_ (i := 4) (N := some 30) (v := ?_) (a' := ?_) #[false, false, true, false, true, false, false, false, false, false] rfl rfl (any_of HT_.out (by kernel_rfl)) (fun _ _ _ h => h) (Or.inl ⟨by rfl, ?_⟩) ?_ ?_
     rotate_left
     ·
      intro w'
      go_simp
      with_reducible rfl
     rotate_left
     ·
      simp only [Act.put, List.setIfInBounds_toArray, List.set_cons_zero, List.set_cons_succ, i64_w, i32_w]
      rfl
     refine take_ (i := 0) (N := some 26) (v := ?_) (a' := ?_) #[true, false, true, false, true, false, false, false, false, false] rfl rfl (take_ofW HT_.out HW_.out (by kernel_rfl)) (fun _ _ _ h => h) (Or.inl ⟨by rfl, ?_⟩) hHeld ?_ ?_
     rotate_left
     ·
      rintro w' ⟨s0, s1, s2, s3⟩
      go_simp
      with_reducible rfl
     rotate_left
     ·
      simp only [Act.put, List.setIfInBounds_toArray, List.set_cons_zero, List.set_cons_succ, i64_w, i32_w]
      rfl
     refine take_ (i := 5) (N := some 31) (v := ?_) (a' := ?_) #[true, false, true, false, true, true, false, false, false, false] rfl rfl (take_ofW HT_.out HW_.out (by kernel_rfl)) (fun _ _ _ h => h) (Or.inl ⟨by rfl, ?_⟩) hHeld ?_ ?_
     rotate_left
     ·
      rintro w' ⟨s0, s1, s2, s3⟩
      go_simp
      with_reducible rfl
     rotate_left
     ·
      simp only [Act.put, List.setIfInBounds_toArray, List.set_cons_zero, List.set_cons_succ, i64_w, i32_w]
      rfl
     refine one_ (i := 1) (N := some 27) #[true, true, true, false, true, true, false, false, false, false] rfl rfl (one_of HT_.out (by kernel_rfl)) (by decide) (fun K hK => ?_)
     refine goes_ Try.func23 (by kernel_rfl) rfl #[.agg #[.int .i64 t394, .int .u64 t395]] (by rfl) rfl rfl (by (try simp only [List.map_toArray, List.map_cons, List.map_nil]); first | done | rfl | (simp only [List.length_drop, List.length_take]; rfl)) ?_
     with_reducible refine (compasslaw01_wide.calls kj3 t394 t395 t397 t398 _ A15.out).mono ?_
     rintro e w31 ⟨v399, rfl, ho0, hb⟩
     refine ⟨_, rfl, ?_⟩
     have n0_ := ak (Kd.R_lower ho0 (below_size (by repeat (first | (with_reducible first | exact HB.out | apply below_alloc | apply pw_below_drewN | apply below_drew1 | refine below_set ?_ GE389.out | refine below_set ?_ GE390.out | refine below_set ?_ GE396.out) | exact HB.out))))
     have n1_ := ak (blk_below (g := gb389) (o := .cells #[.int .i64 a0_0, .int .u64 a0_1] 50 (0, 0)) (bx BK389.out) hb)
     have n2_ := ak (blk_below (g := gb390) (o := .cells #[.int .i64 a1_0, .int .u64 a1_1] 50 (0, 0)) (bx BK390.out) hb)
     have n3_ := ak (blk_below (g := gb396) (o := .cells #[.int .i64 t394, .int .u64 t395] 50 (0, 0)) (bx BK396.out) hb)
     have n4_ := ak (below_step (by repeat (first | (with_reducible first | exact HB.out | apply below_alloc | apply pw_below_drewN | apply below_drew1 | refine below_set ?_ GE389.out | refine below_set ?_ GE390.out | refine below_set ?_ GE396.out) | exact HB.out)) hb)
     clear BK389
     clear BK390
     clear BK396
     clear HB
     have HO400 := n0_
     have BK389 := n1_
     have BK390 := n2_
     have BK396 := n3_
     have HB := n4_
     clear n0_ n1_ n2_ n3_ n4_
     (try clear hb)
     (try clear hb2)
     (try clear hk)
     (try clear hi)
     (try clear ho0)
     refine hK.out _ _ ⟨(blk_cell BK396.out 0).trans rfl, (blk_cell BK396.out 1).trans rfl, (blk_cell BK389.out 0).trans rfl, (blk_cell BK389.out 1).trans rfl⟩ (fun hHeld => ?_)
     clear hK K
     refine norm_ (a' := ?_) ?_ ?_
     rotate_left
     ·
      show Act.put _ (some 27) _ = _
      simp only [Act.put, List.setIfInBounds_toArray, List.set_cons_zero, List.set_cons_succ, i64_w, i32_w]
      rfl
     refine one_ (i := 3) (N := some 29) #[true, true, true, true, true, true, false, false, false, false] rfl rfl (one_of HT_.out (by kernel_rfl)) (by decide) (fun K hK => ?_)
     refine goes_ Try.func15 (by kernel_rfl) rfl #[.int .i64 a2] (by rfl) rfl rfl (by (try simp only [List.map_toArray, List.map_cons, List.map_nil]); first | done | rfl | (simp only [List.length_drop, List.length_take]; rfl)) ?_
     with_reducible refine (compassref01_Of.calls kj3 a2 t401 t402 _ A16.out).mono ?_
     rintro e w32 ⟨v403, rfl, ho0, hb⟩
     refine ⟨_, rfl, ?_⟩
     have n0_ := ak (Kd.R_elder' (rx HO400.out) (Kd.R_base ho0) hb)
     have n1_ := ak (Kd.R_lower (Kd.R_new' ho0 (Kd.R_lt (rx HO400.out))) (below_size (by repeat (first | (with_reducible first | exact HB.out | apply below_alloc | apply pw_below_drewN | apply below_drew1 | refine below_set ?_ GE389.out | refine below_set ?_ GE390.out | refine below_set ?_ GE396.out) | exact HB.out))))
     have n2_ := ak (blk_below (g := gb389) (o := .cells #[.int .i64 a0_0, .int .u64 a0_1] 50 (0, 0)) (bx BK389.out) hb)
     have n3_ := ak (blk_below (g := gb390) (o := .cells #[.int .i64 a1_0, .int .u64 a1_1] 50 (0, 0)) (bx BK390.out) hb)
     have n4_ := ak (blk_below (g := gb396) (o := .cells #[.int .i64 t394, .int .u64 t395] 50 (0, 0)) (bx BK396.out) hb)
     have n5_ := ak (below_step (by repeat (first | (with_reducible first | exact HB.out | apply below_alloc | apply pw_below_drewN | apply below_drew1 | refine below_set ?_ GE389.out | refine below_set ?_ GE390.out | refine below_set ?_ GE396.out) | exact HB.out)) hb)
     clear HO400
     clear BK389
     clear BK390
     clear BK396
     clear HB
     have HO400 := n0_
     have HO404 := n1_
     have BK389 := n2_
     have BK390 := n3_
     have BK396 := n4_
     have HB := n5_
     clear n0_ n1_ n2_ n3_ n4_ n5_
     (try clear hb)
     (try clear hb2)
     (try clear hk)
     (try clear hi)
     (try clear ho0)
     refine hK.out _ _ ⟨(blk_cell BK396.out 0).trans rfl, (blk_cell BK396.out 1).trans rfl, (blk_cell BK389.out 0).trans rfl, (blk_cell BK389.out 1).trans rfl⟩ (fun hHeld => ?_)
     clear hK K
     refine norm_ (a' := ?_) ?_ ?_
     rotate_left
     ·
      show Act.put _ (some 29) _ = _
      simp only [Act.put, List.setIfInBounds_toArray, List.set_cons_zero, List.set_cons_succ, i64_w, i32_w]
      rfl
     refine one_ (i := 6) (N := some 32) #[true, true, true, true, true, true, true, false, false, false] rfl rfl (one_of HT_.out (by kernel_rfl)) (by decide) (fun K hK => ?_)
     refine goes_ Try.func15 (by kernel_rfl) rfl #[.int .i64 a0_0] (by rfl) rfl rfl (by (try simp only [List.map_toArray, List.map_cons, List.map_nil]); first | done | rfl | (simp only [List.length_drop, List.length_take]; rfl)) ?_
     with_reducible refine (compassref01_Of.calls kj3 a0_0 t405 t406 _ A17.out).mono ?_
     rintro e w33 ⟨v407, rfl, ho0, hb⟩
     refine ⟨_, rfl, ?_⟩
     have n0_ := ak (Kd.R_elder' (rx HO400.out) (Kd.R_base ho0) hb)
     have n1_ := ak (Kd.R_elder' (rx HO404.out) (Kd.R_base ho0) hb)
     have n2_ := ak (Kd.R_lower (Kd.R_new' (Kd.R_new' ho0 (Kd.R_lt (rx HO400.out))) (Kd.R_lt (rx HO404.out))) (below_size (by repeat (first | (with_reducible first | exact HB.out | apply below_alloc | apply pw_below_drewN | apply below_drew1 | refine below_set ?_ GE389.out | refine below_set ?_ GE390.out | refine below_set ?_ GE396.out) | exact HB.out))))
     have n3_ := ak (blk_below (g := gb389) (o := .cells #[.int .i64 a0_0, .int .u64 a0_1] 50 (0, 0)) (bx BK389.out) hb)
     have n4_ := ak (blk_below (g := gb390) (o := .cells #[.int .i64 a1_0, .int .u64 a1_1] 50 (0, 0)) (bx BK390.out) hb)
     have n5_ := ak (blk_below (g := gb396) (o := .cells #[.int .i64 t394, .int .u64 t395] 50 (0, 0)) (bx BK396.out) hb)
     have n6_ := ak (below_step (by repeat (first | (with_reducible first | exact HB.out | apply below_alloc | apply pw_below_drewN | apply below_drew1 | refine below_set ?_ GE389.out | refine below_set ?_ GE390.out | refine below_set ?_ GE396.out) | exact HB.out)) hb)
     clear HO400
     clear HO404
     clear BK389
     clear BK390
     clear BK396
     clear HB
     have HO400 := n0_
     have HO404 := n1_
     have HO408 := n2_
     have BK389 := n3_
     have BK390 := n4_
     have BK396 := n5_
     have HB := n6_
     clear n0_ n1_ n2_ n3_ n4_ n5_ n6_
     (try clear hb)
     (try clear hb2)
     (try clear hk)
     (try clear hi)
     (try clear ho0)
     obtain ⟨Ao34, co34, eo34⟩ := Kd.R_slice HO404.out
     (first | subst eo34 | (injection eo34 with f1_ f2_ f3_; have f4_ := f1_.symm; have f5_ := f3_.symm; clear f1_ f2_ f3_; subst f4_; subst f5_))
     obtain ⟨Ao35, co35, eo35⟩ := Kd.R_slice HO408.out
     (first | subst eo35 | (injection eo35 with f1_ f2_ f3_; have f4_ := f1_.symm; have f5_ := f3_.symm; clear f1_ f2_ f3_; subst f4_; subst f5_))
     refine hK.out _ _ ⟨(blk_cell BK396.out 0).trans rfl, (blk_cell BK396.out 1).trans rfl, (blk_cell BK389.out 0).trans rfl, (blk_cell BK389.out 1).trans rfl⟩ (fun hHeld => ?_)
     clear hK K
     refine norm_ (a' := ?_) ?_ ?_
     rotate_left
     ·
      show Act.put _ (some 32) _ = _
      simp only [Act.put, List.setIfInBounds_toArray, List.set_cons_zero, List.set_cons_succ, i64_w, i32_w]
      rfl
     refine one_ (i := 7) (N := some 33) #[true, true, true, true, true, true, true, true, false, false] rfl rfl (one_of HT_.out (by kernel_rfl)) (by decide) (fun K hK => ?_)
     refine goes_ Try.func14 (by kernel_rfl) rfl #[.agg #[.bool t401, .slice Ao34 t402.length co34], .agg #[.bool t405, .slice Ao35 t406.length co35]] (by rfl) rfl rfl (by (try simp only [List.map_toArray, List.map_cons, List.map_nil]); first | done | rfl | (simp only [List.length_drop, List.length_take]; rfl)) ?_
     with_reducible refine (compassref01_Times.calls kj3 t401 _ _ t402 t405 _ _ t406 t409 t410 _ ?side1 ?side2 ?side3 ?side4 A18.out).mono ?_
     (case side1 => repeat (first | exact (Kd.R_reads' HO404.out).2.2 | (with_reducible refine Kd.C_alloc ?_ _) | (with_reducible refine Kd.C_drewN ?_ _) | (with_reducible refine Kd.C_drew ?_)))
     (case side2 => exact (Kd.R_reads' HO404.out).2.1)
     (case side3 => repeat (first | exact (Kd.R_reads' HO408.out).2.2 | (with_reducible refine Kd.C_alloc ?_ _) | (with_reducible refine Kd.C_drewN ?_ _) | (with_reducible refine Kd.C_drew ?_)))
     (case side4 => exact (Kd.R_reads' HO408.out).2.1)
     rintro e w36 ⟨v411, rfl, ho0, hb⟩
     refine ⟨_, rfl, ?_⟩
     have n0_ := ak (Kd.R_elder' (rx HO400.out) (Kd.R_base ho0) hb)
     have n1_ := ak (Kd.R_elder' (rx HO404.out) (Kd.R_base ho0) hb)
     have n2_ := ak (Kd.R_elder' (rx HO408.out) (Kd.R_base ho0) hb)
     have n3_ := ak (Kd.R_lower (Kd.R_new' (Kd.R_new' (Kd.R_new' ho0 (Kd.R_lt (rx HO400.out))) (Kd.R_lt (rx HO404.out))) (Kd.R_lt (rx HO408.out))) (below_size (by repeat (first | (with_reducible first | exact HB.out | apply below_alloc | apply pw_below_drewN | apply below_drew1 | refine below_set ?_ GE389.out | refine below_set ?_ GE390.out | refine below_set ?_ GE396.out) | exact HB.out))))
     have n4_ := ak (blk_below (g := gb389) (o := .cells #[.int .i64 a0_0, .int .u64 a0_1] 50 (0, 0)) (bx BK389.out) hb)
     have n5_ := ak (blk_below (g := gb390) (o := .cells #[.int .i64 a1_0, .int .u64 a1_1] 50 (0, 0)) (bx BK390.out) hb)
     have n6_ := ak (blk_below (g := gb396) (o := .cells #[.int .i64 t394, .int .u64 t395] 50 (0, 0)) (bx BK396.out) hb)
     have n7_ := ak (below_step (by repeat (first | (with_reducible first | exact HB.out | apply below_alloc | apply pw_below_drewN | apply below_drew1 | refine below_set ?_ GE389.out | refine below_set ?_ GE390.out | refine below_set ?_ GE396.out) | exact HB.out)) hb)
     clear HO400
     clear HO404
     clear HO408
     clear BK389
     clear BK390
     clear BK396
     clear HB
     have HO400 := n0_
     have HO404 := n1_
     have HO408 := n2_
     have HO412 := n3_
     have BK389 := n4_
     have BK390 := n5_
     have BK396 := n6_
     have HB := n7_
     clear n0_ n1_ n2_ n3_ n4_ n5_ n6_ n7_
     (try clear hb)
     (try clear hb2)
     (try clear hk)
     (try clear hi)
     (try clear ho0)
     obtain ⟨Ao37, co37, eo37⟩ := Kd.R_slice HO400.out
     (first | subst eo37 | (injection eo37 with f1_ f2_ f3_; have f4_ := f1_.symm; have f5_ := f3_.symm; clear f1_ f2_ f3_; subst f4_; subst f5_))
     obtain ⟨Ao38, co38, eo38⟩ := Kd.R_slice HO412.out
     (first | subst eo38 | (injection eo38 with f1_ f2_ f3_; have f4_ := f1_.symm; have f5_ := f3_.symm; clear f1_ f2_ f3_; subst f4_; subst f5_))
     refine hK.out _ _ ⟨(blk_cell BK396.out 0).trans rfl, (blk_cell BK396.out 1).trans rfl, (blk_cell BK389.out 0).trans rfl, (blk_cell BK389.out 1).trans rfl⟩ (fun hHeld => ?_)
     clear hK K
     refine norm_ (a' := ?_) ?_ ?_
     rotate_left
     ·
      show Act.put _ (some 33) _ = _
      simp only [Act.put, List.setIfInBounds_toArray, List.set_cons_zero, List.set_cons_succ, i64_w, i32_w]
      rfl
     refine one_ (i := 8) (N := some 34) #[true, true, true, true, true, true, true, true, true, false] rfl rfl (one_of HT_.out (by kernel_rfl)) (by decide) (fun K hK => ?_)
     refine goes_ Try.func16 (by kernel_rfl) rfl #[.agg #[.bool t397, .slice Ao37 t398.length co37], .agg #[.bool t409, .slice Ao38 t410.length co38]] (by rfl) rfl rfl (by (try simp only [List.map_toArray, List.map_cons, List.map_nil]); first | done | rfl | (simp only [List.length_drop, List.length_take]; rfl)) ?_
     with_reducible refine (compassref01_Compare.calls kj3 t397 _ _ t398 t409 _ _ t410 t413 _ ?side1 ?side2 ?side3 ?side4 A19.out).mono ?_
     (case side1 => repeat (first | exact (Kd.R_reads' HO400.out).2.2 | (with_reducible refine Kd.C_alloc ?_ _) | (with_reducible refine Kd.C_drewN ?_ _) | (with_reducible refine Kd.C_drew ?_)))
     (case side2 => exact (Kd.R_reads' HO400.out).2.1)
     (case side3 => repeat (first | exact (Kd.R_reads' HO412.out).2.2 | (with_reducible refine Kd.C_alloc ?_ _) | (with_reducible refine Kd.C_drewN ?_ _) | (with_reducible refine Kd.C_drew ?_)))
     (case side4 => exact (Kd.R_reads' HO412.out).2.1)
     rintro e w39 ⟨rfl, hb⟩
     refine ⟨_, rfl, ?_⟩
     have n0_ := ak (Kd.R_below (rx HO400.out) hb)
     have n1_ := ak (Kd.R_below (rx HO404.out) hb)
     have n2_ := ak (Kd.R_below (rx HO408.out) hb)
     have n3_ := ak (Kd.R_below (rx HO412.out) hb)
     have n4_ := ak (blk_below (g := gb389) (o := .cells #[.int .i64 a0_0, .int .u64 a0_1] 50 (0, 0)) (bx BK389.out) hb)
     have n5_ := ak (blk_below (g := gb390) (o := .cells #[.int .i64 a1_0, .int .u64 a1_1] 50 (0, 0)) (bx BK390.out) hb)
     have n6_ := ak (blk_below (g := gb396) (o := .cells #[.int .i64 t394, .int .u64 t395] 50 (0, 0)) (bx BK396.out) hb)
     have n7_ := ak (below_step (by repeat (first | (with_reducible first | exact HB.out | apply below_alloc | apply pw_below_drewN | apply below_drew1 | refine below_set ?_ GE389.out | refine below_set ?_ GE390.out | refine below_set ?_ GE396.out) | exact HB.out)) hb)
     clear HO400
     clear HO404
     clear HO408
     clear HO412
     clear BK389
     clear BK390
     clear BK396
     clear HB
     have HO400 := n0_
     have HO404 := n1_
     have HO408 := n2_
     have HO412 := n3_
     have BK389 := n4_
     have BK390 := n5_
     have BK396 := n6_
     have HB := n7_
     clear n0_ n1_ n2_ n3_ n4_ n5_ n6_ n7_
     (try clear hb)
     (try clear hb2)
     (try clear hk)
     (try clear hi)
     refine hK.out _ _ ⟨(blk_cell BK396.out 0).trans rfl, (blk_cell BK396.out 1).trans rfl, (blk_cell BK389.out 0).trans rfl, (blk_cell BK389.out 1).trans rfl⟩ (fun hHeld => ?_)
     clear hK K
     refine norm_ (a' := ?_) ?_ ?_
     rotate_left
     ·
      show Act.put _ (some 34) _ = _
      simp only [Act.put, List.setIfInBounds_toArray, List.set_cons_zero, List.set_cons_succ, i64_w, i32_w]
      rfl
     refine pure_ (i := 9) (N := some 35) (v := ?_) (a' := ?_) #[true, true, true, true, true, true, true, true, true, true] rfl rfl (any_of HT_.out (by kernel_rfl)) (fun _ _ _ h => h) (Or.inl ⟨by rfl, ?_⟩) ?_ ?_
     rotate_left
     ·
      intro w'
      go_simp
      with_reducible rfl
     rotate_left
     ·
      simp only [Act.put, List.setIfInBounds_toArray, List.set_cons_zero, List.set_cons_succ, i64_w, i32_w]
      rfl
     refine done_ (done_of HT_.out (by kernel_rfl)) ?_
     go_upto_region 6 with (fail)
     go_cut [50] (fun v50 wc => ∃ (kq : Nat) (x50_20 : Bool), v50 = .bool x50_20 ∧ Aside0 (compasslaw01_SafeWides.j1 kq a2 x50_20 a0_0 a0_1 a1_0 a1_1 = some r) ∧ Aside0 (kq ≤ kj3) ∧ Aside0 (wc.heap[gb389]? = some (.cells #[.int .i64 a0_0, .int .u64 a0_1] 50 (0, 0))) ∧ Aside0 (wc.heap[gb390]? = some (.cells #[.int .i64 a1_0, .int .u64 a1_1] 50 (0, 0))) ∧ Aside0 (wc.heap[gb396]? = some (.cells #[.int .i64 t394, .int .u64 t395] 50 (0, 0))) ∧ Aside0 (Below w.heap.size w wc))
     case first =>
      have H := HC21.out
      clear HC21
      replace H := Option.bind_eq_some_iff.mp H
      obtain ⟨t414, A400, H⟩ := H
      replace H : ((compasslaw01_wide.f kj3 a0_0 a0_1).bind fun bt415 => ((compasslaw01_wide.f kj3 a1_0 a1_1).bind fun bt419 => ((compassref01_Compare.f kj3 bt415.1 bt415.2 bt419.1 bt419.2).bind fun t423 => (if t414 = t423 then ((safeint_Compare.f kj3 a0_0 a0_1 a0_0 a0_1).bind fun t424 => (compasslaw01_SafeWides.j1 kj3 a2 (t424 != 0) a0_0 a0_1 a1_0 a1_1)) else (compasslaw01_SafeWides.j1 kj3 a2 true a0_0 a0_1 a1_0 a1_1))))) = some r := H
      have A40 := ak A400
      clear A400
      replace H := Option.bind_eq_some_iff.mp H
      obtain ⟨⟨t415, t416⟩, A410, H⟩ := H
      replace H : ((compasslaw01_wide.f kj3 a1_0 a1_1).bind fun bt419 => ((compassref01_Compare.f kj3 t415 t416 bt419.1 bt419.2).bind fun t423 => (if t414 = t423 then ((safeint_Compare.f kj3 a0_0 a0_1 a0_0 a0_1).bind fun t424 => (compasslaw01_SafeWides.j1 kj3 a2 (t424 != 0) a0_0 a0_1 a1_0 a1_1)) else (compasslaw01_SafeWides.j1 kj3 a2 true a0_0 a0_1 a1_0 a1_1)))) = some r := H
      have A41 := ak A410
      clear A410
      replace H := Option.bind_eq_some_iff.mp H
      obtain ⟨⟨t419, t420⟩, A420, H⟩ := H
      replace H : ((compassref01_Compare.f kj3 t415 t416 t419 t420).bind fun t423 => (if t414 = t423 then ((safeint_Compare.f kj3 a0_0 a0_1 a0_0 a0_1).bind fun t424 => (compasslaw01_SafeWides.j1 kj3 a2 (t424 != 0) a0_0 a0_1 a1_0 a1_1)) else (compasslaw01_SafeWides.j1 kj3 a2 true a0_0 a0_1 a1_0 a1_1))) = some r := H
      have A42 := ak A420
      clear A420
      replace H := Option.bind_eq_some_iff.mp H
      obtain ⟨t423, A430, H⟩ := H
      replace H : (if t414 = t423 then ((safeint_Compare.f kj3 a0_0 a0_1 a0_0 a0_1).bind fun t424 => (compasslaw01_SafeWides.j1 kj3 a2 (t424 != 0) a0_0 a0_1 a1_0 a1_1)) else (compasslaw01_SafeWides.j1 kj3 a2 true a0_0 a0_1 a1_0 a1_1)) = some r := H
      have A43 := ak A430
      clear A430
      by_cases c44 : t414 = t423
      ·
       rw [if_pos c44] at H
       have c44b0 : (t414 == t423) = true := beq_iff_eq.mpr c44
       have c44b1 : (t414 != t423) = false := bne_eq_false_iff_eq.mpr c44
       clear c44
       (first | rw [c44b0] | (simp only [i64_w, i32_w]; rw [c44b0]) | skip)
       replace H := Option.bind_eq_some_iff.mp H
       obtain ⟨t424, A450, H⟩ := H
       replace H : (compasslaw01_SafeWides.j1 kj3 a2 (t424 != 0) a0_0 a0_1 a1_0 a1_1) = some r := H
       have A45 := ak A450
       clear A450
       have H' := ak H
       clear H
       try go_wp2
       have n0_ := ak (Kd.R_drew HO400.out)
       have n1_ := ak (Kd.R_drew HO404.out)
       have n2_ := ak (Kd.R_drew HO408.out)
       have n3_ := ak (Kd.R_drew HO412.out)
       have n4_ := ak (blk_drew BK389.out)
       have n5_ := ak (blk_drew BK390.out)
       have n6_ := ak (blk_drew BK396.out)
       have n7_ := ak (below_drew1 HB.out)
       clear HO400
       clear HO404
       clear HO408
       clear HO412
       clear BK389
       clear BK390
       clear BK396
       clear HB
       have HO400 := n0_
       have HO404 := n1_
       have HO408 := n2_
       have HO412 := n3_
       have BK389 := n4_
       have BK390 := n5_
       have BK396 := n6_
       have HB := n7_
       clear n0_ n1_ n2_ n3_ n4_ n5_ n6_ n7_
       refine start_ (n := 15) (S := fun w' => w'.cell? ⟨gb389, 0, none⟩ = some (.int .i64 a0_0) ∧ w'.cell? ⟨gb389, 1, none⟩ = some (.int .u64 a0_1) ∧ w'.cell? ⟨gb390, 0, none⟩ = some (.int .i64 a1_0) ∧ w'.cell? ⟨gb390, 1, none⟩ = some (.int .u64 a1_1)) (ds := []) #[false, false, false, false, false, false, false, false, false, false, false, false, false, false, false] (by kernel_rfl) rfl rfl ⟨(blk_cell BK389.out 0).trans rfl, (blk_cell BK389.out 1).trans rfl, (blk_cell BK390.out 0).trans rfl, (blk_cell BK390.out 1).trans rfl⟩ (fun hHeld => ?_); refine with_tabW compasslaw01_SafeWides.tab6 compasslaw01_SafeWides.bits6 (fun HT_ HW_ => ?_)
       generalize w39.drew = w46 at HO400 HO404 HO408 HO412 BK389 BK390 BK396 HB hHeld ⊢
       refine take_ (i := 0) (N := some 36) (v := ?_) (a' := ?_) #[true, false, false, false, false, false, false, false, false, false, false, false, false, false, false] rfl rfl (take_ofW HT_.out HW_.out (by kernel_rfl)) (fun _ _ _ h => h) (Or.inl ⟨by rfl, ?_⟩) hHeld ?_ ?_
       rotate_left
       ·
        rintro w' ⟨s0, s1, s2, s3⟩
        go_simp
        with_reducible rfl
       rotate_left
       ·
        simp only [Act.put, List.setIfInBounds_toArray, List.set_cons_zero, List.set_cons_succ, i64_w, i32_w]
        rfl
       refine take_ (i := 1) (N := some 37) (v := ?_) (a' := ?_) #[true, true, false, false, false, false, false, false, false, false, false, false, false, false, false] rfl rfl (take_ofW HT_.out HW_.out (by kernel_rfl)) (fun _ _ _ h => h) (Or.inl ⟨by rfl, ?_⟩) hHeld ?_ ?_
       rotate_left
       ·
        rintro w' ⟨s0, s1, s2, s3⟩
        go_simp
        with_reducible rfl
       rotate_left
       ·
        simp only [Act.put, List.setIfInBounds_toArray, List.set_cons_zero, List.set_cons_succ, i64_w, i32_w]
        rfl
       refine take_ (i := 3) (N := some 39) (v := ?_) (a' := ?_) #[true, true, false, true, false, false, false, false, false, false, false, false, false, false, false] rfl rfl (take_ofW HT_.out HW_.out (by kernel_rfl)) (fun _ _ _ h => h) (Or.inl ⟨by rfl, ?_⟩) hHeld ?_ ?_
       rotate_left
       ·
        rintro w' ⟨s0, s1, s2, s3⟩
        go_simp
        with_reducible rfl
       rotate_left
       ·
        simp only [Act.put, List.setIfInBounds_toArray, List.set_cons_zero, List.set_cons_succ, i64_w, i32_w]
        rfl
       refine take_ (i := 5) (N := some 41) (v := ?_) (a' := ?_) #[true, true, false, true, false, true, false, false, false, false, false, false, false, false, false] rfl rfl (take_ofW HT_.out HW_.out (by kernel_rfl)) (fun _ _ _ h => h) (Or.inl ⟨by rfl, ?_⟩) hHeld ?_ ?_
       rotate_left
       ·
        rintro w' ⟨s0, s1, s2, s3⟩
        go_simp
        with_reducible rfl
       rotate_left
       ·
        simp only [Act.put, List.setIfInBounds_toArray, List.set_cons_zero, List.set_cons_succ, i64_w, i32_w]
        rfl
       refine one_ (i := 2) (N := some 38) #[true, true, true, true, false, true, false, false, false, false, false, false, false, false, false] rfl rfl (one_of HT_.out (by kernel_rfl)) (by decide) (fun K hK => ?_)
       refine goes_ Try.func24 (by kernel_rfl) rfl #[.agg #[.int .i64 a0_0, .int .u64 a0_1], .agg #[.int .i64 a1_0, .int .u64 a1_1]] (by rfl) rfl rfl (by (try simp only [List.map_toArray, List.map_cons, List.map_nil]); first | done | rfl | (simp only [List.length_drop, List.length_take]; rfl)) ?_
       with_reducible refine (safeint_Compare.calls kj3 a0_0 a0_1 a1_0 a1_1 t414 _ A40.out).mono ?_
       rintro e w47 ⟨rfl, hb⟩
       refine ⟨_, rfl, ?_⟩
       have n0_ := ak (Kd.R_below (rx HO400.out) hb)
       have n1_ := ak (Kd.R_below (rx HO404.out) hb)
       have n2_ := ak (Kd.R_below (rx HO408.out) hb)
       have n3_ := ak (Kd.R_below (rx HO412.out) hb)
       have n4_ := ak (blk_below (g := gb389) (o := .cells #[.int .i64 a0_0, .int .u64 a0_1] 50 (0, 0)) (bx BK389.out) hb)
       have n5_ := ak (blk_below (g := gb390) (o := .cells #[.int .i64 a1_0, .int .u64 a1_1] 50 (0, 0)) (bx BK390.out) hb)
       have n6_ := ak (blk_below (g := gb396) (o := .cells #[.int .i64 t394, .int .u64 t395] 50 (0, 0)) (bx BK396.out) hb)
       have n7_ := ak (below_step (by repeat (first | (with_reducible first | exact HB.out | apply below_alloc | apply pw_below_drewN | apply below_drew1 | refine below_set ?_ GE389.out | refine below_set ?_ GE390.out | refine below_set ?_ GE396.out) | exact HB.out)) hb)
       clear HO400
       clear HO404
       clear HO408
       clear HO412
       clear BK389
       clear BK390
       clear BK396
       clear HB
       have HO400 := n0_
       have HO404 := n1_
       have HO408 := n2_
       have HO412 := n3_
       have BK389 := n4_
       have BK390 := n5_
       have BK396 := n6_
       have HB := n7_
       clear n0_ n1_ n2_ n3_ n4_ n5_ n6_ n7_
       (try clear hb)
       (try clear hb2)
       (try clear hk)
       (try clear hi)
       refine hK.out _ _ ⟨(blk_cell BK389.out 0).trans rfl, (blk_cell BK389.out 1).trans rfl, (blk_cell BK390.out 0).trans rfl, (blk_cell BK390.out 1).trans rfl⟩ (fun hHeld => ?_)
       clear hK K
       refine norm_ (a' := ?_) ?_ ?_
       rotate_left
       ·
        show Act.put _ (some 38) _ = _
        simp only [Act.put, List.setIfInBounds_toArray, List.set_cons_zero, List.set_cons_succ, i64_w, i32_w]
        rfl
       refine one_ (i := 4) (N := some 40) #[true, true, true, true, true, true, false, false, false, false, false, false, false, false, false] rfl rfl (one_of HT_.out (by kernel_rfl)) (by decide) (fun K hK => ?_)
       refine goes_ Try.func23 (by kernel_rfl) rfl #[.agg #[.int .i64 a0_0, .int .u64 a0_1]] (by rfl) rfl rfl (by (try simp only [List.map_toArray, List.map_cons, List.map_nil]); first | done | rfl | (simp only [List.length_drop, List.length_take]; rfl)) ?_
       with_reducible refine (compasslaw01_wide.calls kj3 a0_0 a0_1 t415 t416 _ A41.out).mono ?_
       rintro e w48 ⟨v417, rfl, ho0, hb⟩
       refine ⟨_, rfl, ?_⟩
       have n0_ := ak (Kd.R_elder' (rx HO400.out) (Kd.R_base ho0) hb)
       have n1_ := ak (Kd.R_elder' (rx HO404.out) (Kd.R_base ho0) hb)
       have n2_ := ak (Kd.R_elder' (rx HO408.out) (Kd.R_base ho0) hb)
       have n3_ := ak (Kd.R_elder' (rx HO412.out) (Kd.R_base ho0) hb)
       have n4_ := ak (Kd.R_lower (Kd.R_new' (Kd.R_new' (Kd.R_new' (Kd.R_new' ho0 (Kd.R_lt (rx HO400.out))) (Kd.R_lt (rx HO404.out))) (Kd.R_lt (rx HO408.out))) (Kd.R_lt (rx HO412.out))) (below_size (by repeat (first | (with_reducible first | exact HB.out | apply below_alloc | apply pw_below_drewN | apply below_drew1 | refine below_set ?_ GE389.out | refine below_set ?_ GE390.out | refine below_set ?_ GE396.out) | exact HB.out))))
       have n5_ := ak (blk_below (g := gb389) (o := .cells #[.int .i64 a0_0, .int .u64 a0_1] 50 (0, 0)) (bx BK389.out) hb)
       have n6_ := ak (blk_below (g := gb390) (o := .cells #[.int .i64 a1_0, .int .u64 a1_1] 50 (0, 0)) (bx BK390.out) hb)
       have n7_ := ak (blk_below (g := gb396) (o := .cells #[.int .i64 t394, .int .u64 t395] 50 (0, 0)) (bx BK396.out) hb)
       have n8_ := ak (below_step (by repeat (first | (with_reducible first | exact HB.out | apply below_alloc | apply pw_below_drewN | apply below_drew1 | refine below_set ?_ GE389.out | refine below_set ?_ GE390.out | refine below_set ?_ GE396.out) | exact HB.out)) hb)
       clear HO400
       clear HO404
       clear HO408
       clear HO412
       clear BK389
       clear BK390
       clear BK396
       clear HB
       have HO400 := n0_
       have HO404 := n1_
       have HO408 := n2_
       have HO412 := n3_
       have HO418 := n4_
       have BK389 := n5_
       have BK390 := n6_
       have BK396 := n7_
       have HB := n8_
       clear n0_ n1_ n2_ n3_ n4_ n5_ n6_ n7_ n8_
       (try clear hb)
       (try clear hb2)
       (try clear hk)
       (try clear hi)
       (try clear ho0)
       refine hK.out _ _ ⟨(blk_cell BK389.out 0).trans rfl, (blk_cell BK389.out 1).trans rfl, (blk_cell BK390.out 0).trans rfl, (blk_cell BK390.out 1).trans rfl⟩ (fun hHeld => ?_)
       clear hK K
       refine norm_ (a' := ?_) ?_ ?_
       rotate_left
       ·
        show Act.put _ (some 40) _ = _
        simp only [Act.put, List.setIfInBounds_toArray, List.set_cons_zero, List.set_cons_succ, i64_w, i32_w]
        rfl
       refine one_ (i := 6) (N := some 42) #[true, true, true, true, true, true, true, false, false, false, false, false, false, false, false] rfl rfl (one_of HT_.out (by kernel_rfl)) (by decide) (fun K hK => ?_)
       refine goes_ Try.func23 (by kernel_rfl) rfl #[.agg #[.int .i64 a1_0, .int .u64 a1_1]] (by rfl) rfl rfl (by (try simp only [List.map_toArray, List.map_cons, List.map_nil]); first | done | rfl | (simp only [List.length_drop, List.length_take]; rfl)) ?_
       with_reducible refine (compasslaw01_wide.calls kj3 a1_0 a1_1 t419 t420 _ A42.out).mono ?_
       rintro e w49 ⟨v421, rfl, ho0, hb⟩
       refine ⟨_, rfl, ?_⟩
       have n0_ := ak (Kd.R_elder' (rx HO400.out) (Kd.R_base ho0) hb)
       have n1_ := ak (Kd.R_elder' (rx HO404.out) (Kd.R_base ho0) hb)
       have n2_ := ak (Kd.R_elder' (rx HO408.out) (Kd.R_base ho0) hb)
       have n3_ := ak (Kd.R_elder' (rx HO412.out) (Kd.R_base ho0) hb)
       have n4_ := ak (Kd.R_elder' (rx HO418.out) (Kd.R_base ho0) hb)
       have n5_ := ak (Kd.R_lower (Kd.R_new' (Kd.R_new' (Kd.R_new' (Kd.R_new' (Kd.R_new' ho0 (Kd.R_lt (rx HO400.out))) (Kd.R_lt (rx HO404.out))) (Kd.R_lt (rx HO408.out))) (Kd.R_lt (rx HO412.out))) (Kd.R_lt (rx HO418.out))) (below_size (by repeat (first | (with_reducible first | exact HB.out | apply below_alloc | apply pw_below_drewN | apply below_drew1 | refine below_set ?_ GE389.out | refine below_set ?_ GE390.out | refine below_set ?_ GE396.out) | exact HB.out))))
       have n6_ := ak (blk_below (g := gb389) (o := .cells #[.int .i64 a0_0, .int .u64 a0_1] 50 (0, 0)) (bx BK389.out) hb)
       have n7_ := ak (blk_below (g := gb390) (o := .cells #[.int .i64 a1_0, .int .u64 a1_1] 50 (0, 0)) (bx BK390.out) hb)
       have n8_ := ak (blk_below (g := gb396) (o := .cells #[.int .i64 t394, .int .u64 t395] 50 (0, 0)) (bx BK396.out) hb)
       have n9_ := ak (below_step (by repeat (first | (with_reducible first | exact HB.out | apply below_alloc | apply pw_below_drewN | apply below_drew1 | refine below_set ?_ GE389.out | refine below_set ?_ GE390.out | refine below_set ?_ GE396.out) | exact HB.out)) hb)
       clear HO400
       clear HO404
       clear HO408
       clear HO412
       clear HO418
       clear BK389
       clear BK390
       clear BK396
       clear HB
       have HO400 := n0_
       have HO404 := n1_
       have HO408 := n2_
       have HO412 := n3_
       have HO418 := n4_
       have HO422 := n5_
       have BK389 := n6_
       have BK390 := n7_
       have BK396 := n8_
       have HB := n9_
       clear n0_ n1_ n2_ n3_ n4_ n5_ n6_ n7_ n8_ n9_
       (try clear hb)
       (try clear hb2)
       (try clear hk)
       (try clear hi)
       (try clear ho0)
       obtain ⟨Ao50, co50, eo50⟩ := Kd.R_slice HO418.out
       (first | subst eo50 | (injection eo50 with f1_ f2_ f3_; have f4_ := f1_.symm; have f5_ := f3_.symm; clear f1_ f2_ f3_; subst f4_; subst f5_))
       obtain ⟨Ao51, co51, eo51⟩ := Kd.R_slice HO422.out
       (first | subst eo51 | (injection eo51 with f1_ f2_ f3_; have f4_ := f1_.symm; have f5_ := f3_.symm; clear f1_ f2_ f3_; subst f4_; subst f5_))
       refine hK.out _ _ ⟨(blk_cell BK389.out 0).trans rfl, (blk_cell BK389.out 1).trans rfl, (blk_cell BK390.out 0).trans rfl, (blk_cell BK390.out 1).trans rfl⟩ (fun hHeld => ?_)
       clear hK K
       refine norm_ (a' := ?_) ?_ ?_
       rotate_left
       ·
        show Act.put _ (some 42) _ = _
        simp only [Act.put, List.setIfInBounds_toArray, List.set_cons_zero, List.set_cons_succ, i64_w, i32_w]
        rfl
       refine one_ (i := 7) (N := some 43) #[true, true, true, true, true, true, true, true, false, false, false, false, false, false, false] rfl rfl (one_of HT_.out (by kernel_rfl)) (by decide) (fun K hK => ?_)
       refine goes_ Try.func16 (by kernel_rfl) rfl #[.agg #[.bool t415, .slice Ao50 t416.length co50], .agg #[.bool t419, .slice Ao51 t420.length co51]] (by rfl) rfl rfl (by (try simp only [List.map_toArray, List.map_cons, List.map_nil]); first | done | rfl | (simp only [List.length_drop, List.length_take]; rfl)) ?_
       with_reducible refine (compassref01_Compare.calls kj3 t415 _ _ t416 t419 _ _ t420 t423 _ ?side1 ?side2 ?side3 ?side4 A43.out).mono ?_
       (case side1 => repeat (first | exact (Kd.R_reads' HO418.out).2.2 | (with_reducible refine Kd.C_alloc ?_ _) | (with_reducible refine Kd.C_drewN ?_ _) | (with_reducible refine Kd.C_drew ?_)))
       (case side2 => exact (Kd.R_reads' HO418.out).2.1)
       (case side3 => repeat (first | exact (Kd.R_reads' HO422.out).2.2 | (with_reducible refine Kd.C_alloc ?_ _) | (with_reducible refine Kd.C_drewN ?_ _) | (with_reducible refine Kd.C_drew ?_)))
       (case side4 => exact (Kd.R_reads' HO422.out).2.1)
       rintro e w52 ⟨rfl, hb⟩
       refine ⟨_, rfl, ?_⟩
       have n0_ := ak (Kd.R_below (rx HO400.out) hb)
       have n1_ := ak (Kd.R_below (rx HO404.out) hb)
       have n2_ := ak (Kd.R_below (rx HO408.out) hb)
       have n3_ := ak (Kd.R_below (rx HO412.out) hb)
       have n4_ := ak (Kd.R_below (rx HO418.out) hb)
       have n5_ := ak (Kd.R_below (rx HO422.out) hb)
       have n6_ := ak (blk_below (g := gb389) (o := .cells #[.int .i64 a0_0, .int .u64 a0_1] 50 (0, 0)) (bx BK389.out) hb)
       have n7_ := ak (blk_below (g := gb390) (o := .cells #[.int .i64 a1_0, .int .u64 a1_1] 50 (0, 0)) (bx BK390.out) hb)
       have n8_ := ak (blk_below (g := gb396) (o := .cells #[.int .i64 t394, .int .u64 t395] 50 (0, 0)) (bx BK396.out) hb)
       have n9_ := ak (below_step (by repeat (first | (with_reducible first | exact HB.out | apply below_alloc | apply pw_below_drewN | apply below_drew1 | refine below_set ?_ GE389.out | refine below_set ?_ GE390.out | refine below_set ?_ GE396.out) | exact HB.out)) hb)
       clear HO400
       clear HO404
       clear HO408
       clear HO412
       clear HO418
       clear HO422
       clear BK389
       clear BK390
       clear BK396
       clear HB
       have HO400 := n0_
       have HO404 := n1_
       have HO408 := n2_
       have HO412 := n3_
       have HO418 := n4_
       have HO422 := n5_
       have BK389 := n6_
       have BK390 := n7_
       have BK396 := n8_
       have HB := n9_
       clear n0_ n1_ n2_ n3_ n4_ n5_ n6_ n7_ n8_ n9_
       (try clear hb)
       (try clear hb2)
       (try clear hk)
       (try clear hi)
       refine hK.out _ _ ⟨(blk_cell BK389.out 0).trans rfl, (blk_cell BK389.out 1).trans rfl, (blk_cell BK390.out 0).trans rfl, (blk_cell BK390.out 1).trans rfl⟩ (fun hHeld => ?_)
       clear hK K
       refine norm_ (a' := ?_) ?_ ?_
       rotate_left
       ·
        show Act.put _ (some 43) _ = _
        simp only [Act.put, List.setIfInBounds_toArray, List.set_cons_zero, List.set_cons_succ, i64_w, i32_w]
        rfl
       refine pure_ (i := 8) (N := some 44) (v := ?_) (a' := ?_) #[true, true, true, true, true, true, true, true, true, false, false, false, false, false, false] rfl rfl (any_of HT_.out (by kernel_rfl)) (fun _ _ _ h => h) (Or.inl ⟨by rfl, ?_⟩) ?_ ?_
       rotate_left
       ·
        intro w'
        go_simp
        with_reducible rfl
       rotate_left
       ·
        simp only [Act.put, List.setIfInBounds_toArray, List.set_cons_zero, List.set_cons_succ, i64_w, i32_w]
        rfl
       refine pure_ (i := 9) (N := some 45) (v := ?_) (a' := ?_) #[true, true, true, true, true, true, true, true, true, true, false, false, false, false, false] rfl rfl (any_of HT_.out (by kernel_rfl)) (fun _ _ _ h => h) (Or.inl ⟨by rfl, ?_⟩) ?_ ?_
       rotate_left
       ·
        intro w'
        go_simp
        with_reducible rfl
       rotate_left
       ·
        simp only [Act.put, List.setIfInBounds_toArray, List.set_cons_zero, List.set_cons_succ, i64_w, i32_w]
        rfl
       refine take_ (i := 10) (N := some 46) (v := ?_) (a' := ?_) #[true, true, true, true, true, true, true, true, true, true, true, false, false, false, false] rfl rfl (take_ofW HT_.out HW_.out (by kernel_rfl)) (fun _ _ _ h => h) (Or.inl ⟨by rfl, ?_⟩) hHeld ?_ ?_
       rotate_left
       ·
        rintro w' ⟨s0, s1, s2, s3⟩
        go_simp
        with_reducible rfl
       rotate_left
       ·
        simp only [Act.put, List.setIfInBounds_toArray, List.set_cons_zero, List.set_cons_succ, i64_w, i32_w]
        rfl
       refine take_ (i := 11) (N := some 47) (v := ?_) (a' := ?_) #[true, true, true, true, true, true, true, true, true, true, true, true, false, false, false] rfl rfl (take_ofW HT_.out HW_.out (by kernel_rfl)) (fun _ _ _ h => h) (Or.inl ⟨by rfl, ?_⟩) hHeld ?_ ?_
       rotate_left
       ·
        rintro w' ⟨s0, s1, s2, s3⟩
        go_simp
        with_reducible rfl
       rotate_left
       ·
        simp only [Act.put, List.setIfInBounds_toArray, List.set_cons_zero, List.set_cons_succ, i64_w, i32_w]
        rfl
       refine one_ (i := 12) (N := some 48) #[true, true, true, true, true, true, true, true, true, true, true, true, true, false, false] rfl rfl (one_of HT_.out (by kernel_rfl)) (by decide) (fun K hK => ?_)
       refine goes_ Try.func24 (by kernel_rfl) rfl #[.agg #[.int .i64 a0_0, .int .u64 a0_1], .agg #[.int .i64 a0_0, .int .u64 a0_1]] (by rfl) rfl rfl (by (try simp only [List.map_toArray, List.map_cons, List.map_nil]); first | done | rfl | (simp only [List.length_drop, List.length_take]; rfl)) ?_
       with_reducible refine (safeint_Compare.calls kj3 a0_0 a0_1 a0_0 a0_1 t424 _ A45.out).mono ?_
       rintro e w53 ⟨rfl, hb⟩
       refine ⟨_, rfl, ?_⟩
       have n0_ := ak (Kd.R_below (rx HO400.out) hb)
       have n1_ := ak (Kd.R_below (rx HO404.out) hb)
       have n2_ := ak (Kd.R_below (rx HO408.out) hb)
       have n3_ := ak (Kd.R_below (rx HO412.out) hb)
       have n4_ := ak (Kd.R_below (rx HO418.out) hb)
       have n5_ := ak (Kd.R_below (rx HO422.out) hb)
       have n6_ := ak (blk_below (g := gb389) (o := .cells #[.int .i64 a0_0, .int .u64 a0_1] 50 (0, 0)) (bx BK389.out) hb)
       have n7_ := ak (blk_below (g := gb390) (o := .cells #[.int .i64 a1_0, .int .u64 a1_1] 50 (0, 0)) (bx BK390.out) hb)
       have n8_ := ak (blk_below (g := gb396) (o := .cells #[.int .i64 t394, .int .u64 t395] 50 (0, 0)) (bx BK396.out) hb)
       have n9_ := ak (below_step (by repeat (first | (with_reducible first | exact HB.out | apply below_alloc | apply pw_below_drewN | apply below_drew1 | refine below_set ?_ GE389.out | refine below_set ?_ GE390.out | refine below_set ?_ GE396.out) | exact HB.out)) hb)
       clear HO400
       clear HO404
       clear HO408
       clear HO412
       clear HO418
       clear HO422
       clear BK389
       clear BK390
       clear BK396
       clear HB
       have HO400 := n0_
       have HO404 := n1_
       have HO408 := n2_
       have HO412 := n3_
       have HO418 := n4_
       have HO422 := n5_
       have BK389 := n6_
       have BK390 := n7_
       have BK396 := n8_
       have HB := n9_
       clear n0_ n1_ n2_ n3_ n4_ n5_ n6_ n7_ n8_ n9_
       (try clear hb)
       (try clear hb2)
       (try clear hk)
       (try clear hi)
       refine hK.out _ _ ⟨(blk_cell BK389.out 0).trans rfl, (blk_cell BK389.out 1).trans rfl, (blk_cell BK390.out 0).trans rfl, (blk_cell BK390.out 1).trans rfl⟩ (fun hHeld => ?_)
       clear hK K
       refine norm_ (a' := ?_) ?_ ?_
       rotate_left
       ·
        show Act.put _ (some 48) _ = _
        simp only [Act.put, List.setIfInBounds_toArray, List.set_cons_zero, List.set_cons_succ, i64_w, i32_w]
        rfl
       refine pure_ (i := 13) (N := some 49) (v := ?_) (a' := ?_) #[true, true, true, true, true, true, true, true, true, true, true, true, true, true, false] rfl rfl (any_of HT_.out (by kernel_rfl)) (fun _ _ _ h => h) (Or.inl ⟨by rfl, ?_⟩) ?_ ?_
       rotate_left
       ·
        intro w'
        go_simp
        with_reducible rfl
       rotate_left
       ·
        simp only [Act.put, List.setIfInBounds_toArray, List.set_cons_zero, List.set_cons_succ, i64_w, i32_w]
        rfl
       refine pure_ (i := 14) (N := some 50) (v := ?_) (a' := ?_) #[true, true, true, true, true, true, true, true, true, true, true, true, true, true, true] rfl rfl (any_of HT_.out (by kernel_rfl)) (fun _ _ _ h => h) (Or.inl ⟨by rfl, ?_⟩) ?_ ?_
       rotate_left
       ·
        intro w'
        go_simp
        with_reducible rfl
       rotate_left
       ·
        simp only [Act.put, List.setIfInBounds_toArray, List.set_cons_zero, List.set_cons_succ, i64_w, i32_w]
        rfl
       refine done_ (done_of HT_.out (by kernel_rfl)) ?_
       try go_wp2
       go_meet
       case rel => exact ⟨_, ((t424 != 0)), (by first | rfl | (simp; done) | (simp [*]; done)), H', ⟨by have := HJ3.out; first | omega | exact Nat.le_refl _⟩, ⟨by exact bx BK389.out⟩, ⟨by exact bx BK390.out⟩, ⟨by exact bx BK396.out⟩, ⟨by repeat (first | (with_reducible first | exact HB.out | apply below_alloc | apply pw_below_drewN | apply below_drew1 | refine below_set ?_ GE389.out | refine below_set ?_ GE390.out | refine below_set ?_ GE396.out) | exact HB.out)⟩⟩
      ·
       rw [if_neg c44] at H
       have c44b0 : (t414 == t423) = false := beq_eq_false_iff_ne.mpr c44
       have c44b1 : (t414 != t423) = true := bne_iff_ne.mpr c44
       (first | rw [c44b0] | (simp only [i64_w, i32_w]; rw [c44b0]) | skip)
       have H' := ak H
       clear H
       try go_wp2
       have n0_ := ak (Kd.R_drew HO400.out)
       have n1_ := ak (Kd.R_drew HO404.out)
       have n2_ := ak (Kd.R_drew HO408.out)
       have n3_ := ak (Kd.R_drew HO412.out)
       have n4_ := ak (blk_drew BK389.out)
       have n5_ := ak (blk_drew BK390.out)
       have n6_ := ak (blk_drew BK396.out)
       have n7_ := ak (below_drew1 HB.out)
       clear HO400
       clear HO404
       clear HO408
       clear HO412
       clear BK389
       clear BK390
       clear BK396
       clear HB
       have HO400 := n0_
       have HO404 := n1_
       have HO408 := n2_
       have HO412 := n3_
       have BK389 := n4_
       have BK390 := n5_
       have BK396 := n6_
       have HB := n7_
       clear n0_ n1_ n2_ n3_ n4_ n5_ n6_ n7_
       refine start_ (n := 15) (S := fun w' => w'.cell? ⟨gb389, 0, none⟩ = some (.int .i64 a0_0) ∧ w'.cell? ⟨gb389, 1, none⟩ = some (.int .u64 a0_1) ∧ w'.cell? ⟨gb390, 0, none⟩ = some (.int .i64 a1_0) ∧ w'.cell? ⟨gb390, 1, none⟩ = some (.int .u64 a1_1)) (ds := []) #[false, false, false, false, false, false, false, false, false, false, false, false, false, false, false] (by kernel_rfl) rfl rfl ⟨(blk_cell BK389.out 0).trans rfl, (blk_cell BK389.out 1).trans rfl, (blk_cell BK390.out 0).trans rfl, (blk_cell BK390.out 1).trans rfl⟩ (fun hHeld => ?_); refine with_tabW compasslaw01_SafeWides.tab6 compasslaw01_SafeWides.bits6 (fun HT_ HW_ => ?_)
       generalize w39.drew = w54 at HO400 HO404 HO408 HO412 BK389 BK390 BK396 HB hHeld ⊢
       refine take_ (i := 0) (N := some 36) (v := ?_) (a' := ?_) #[true, false, false, false, false, false, false, false, false, false, false, false, false, false, false] rfl rfl (take_ofW HT_.out HW_.out (by kernel_rfl)) (fun _ _ _ h => h) (Or.inl ⟨by rfl, ?_⟩) hHeld ?_ ?_
       rotate_left
       ·
        rintro w' ⟨s0, s1, s2, s3⟩
        go_simp
        with_reducible rfl
       rotate_left
       ·
        simp only [Act.put, List.setIfInBounds_toArray, List.set_cons_zero, List.set_cons_succ, i64_w, i32_w]
        rfl
       refine take_ (i := 1) (N := some 37) (v := ?_) (a' := ?_) #[true, true, false, false, false, false, false, false, false, false, false, false, false, false, false] rfl rfl (take_ofW HT_.out HW_.out (by kernel_rfl)) (fun _ _ _ h => h) (Or.inl ⟨by rfl, ?_⟩) hHeld ?_ ?_
       rotate_left
       ·
        rintro w' ⟨s0, s1, s2, s3⟩
        go_simp
        with_reducible rfl
       rotate_left
       ·
        simp only [Act.put, List.setIfInBounds_toArray, List.set_cons_zero, List.set_cons_succ, i64_w, i32_w]
        rfl
       refine take_ (i := 3) (N := some 39) (v := ?_) (a' := ?_) #[true, true, false, true, false, false, false, false, false, false, false, false, false, false, false] rfl rfl (take_ofW HT_.out HW_.out (by kernel_rfl)) (fun _ _ _ h => h) (Or.inl ⟨by rfl, ?_⟩) hHeld ?_ ?_
       rotate_left
       ·
        rintro w' ⟨s0, s1, s2, s3⟩
        go_simp
        with_reducible rfl
       rotate_left
       ·
        simp only [Act.put, List.setIfInBounds_toArray, List.set_cons_zero, List.set_cons_succ, i64_w, i32_w]
        rfl
       refine take_ (i := 5) (N := some 41) (v := ?_) (a' := ?_) #[true, true, false, true, false, true, false, false, false, false, false, false, false, false, false] rfl rfl (take_ofW HT_.out HW_.out (by kernel_rfl)) (fun _ _ _ h => h) (Or.inl ⟨by rfl, ?_⟩) hHeld ?_ ?_
       rotate_left
       ·
        rintro w' ⟨s0, s1, s2, s3⟩
        go_simp
        with_reducible rfl
       rotate_left
       ·
        simp only [Act.put, List.setIfInBounds_toArray, List.set_cons_zero, List.set_cons_succ, i64_w, i32_w]
        rfl
       refine one_ (i := 2) (N := some 38) #[true, true, true, true, false, true, false, false, false, false, false, false, false, false, false] rfl rfl (one_of HT_.out (by kernel_rfl)) (by decide) (fun K hK => ?_)
       refine goes_ Try.func24 (by kernel_rfl) rfl #[.agg #[.int .i64 a0_0, .int .u64 a0_1], .agg #[.int .i64 a1_0, .int .u64 a1_1]] (by rfl) rfl rfl (by (try simp only [List.map_toArray, List.map_cons, List.map_nil]); first | done | rfl | (simp only [List.length_drop, List.length_take]; rfl)) ?_
       with_reducible refine (safeint_Compare.calls kj3 a0_0 a0_1 a1_0 a1_1 t414 _ A40.out).mono ?_
       rintro e w55 ⟨rfl, hb⟩
       refine ⟨_, rfl, ?_⟩
       have n0_ := ak (Kd.R_below (rx HO400.out) hb)
       have n1_ := ak (Kd.R_below (rx HO404.out) hb)
       have n2_ := ak (Kd.R_below (rx HO408.out) hb)
       have n3_ := ak (Kd.R_below (rx HO412.out) hb)
       have n4_ := ak (blk_below (g := gb389) (o := .cells #[.int .i64 a0_0, .int .u64 a0_1] 50 (0, 0)) (bx BK389.out) hb)
       have n5_ := ak (blk_below (g := gb390) (o := .cells #[.int .i64 a1_0, .int .u64 a1_1] 50 (0, 0)) (bx BK390.out) hb)
       have n6_ := ak (blk_below (g := gb396) (o := .cells #[.int .i64 t394, .int .u64 t395] 50 (0, 0)) (bx BK396.out) hb)
       have n7_ := ak (below_step (by repeat (first | (with_reducible first | exact HB.out | apply below_alloc | apply pw_below_drewN | apply below_drew1 | refine below_set ?_ GE389.out | refine below_set ?_ GE390.out | refine below_set ?_ GE396.out) | exact HB.out)) hb)
       clear HO400
       clear HO404
       clear HO408
       clear HO412
       clear BK389
       clear BK390
       clear BK396
       clear HB
       have HO400 := n0_
       have HO404 := n1_
       have HO408 := n2_
       have HO412 := n3_
       have BK389 := n4_
       have BK390 := n5_
       have BK396 := n6_
       have HB := n7_
       clear n0_ n1_ n2_ n3_ n4_ n5_ n6_ n7_
       (try clear hb)
       (try clear hb2)
       (try clear hk)
       (try clear hi)
       refine hK.out _ _ ⟨(blk_cell BK389.out 0).trans rfl, (blk_cell BK389.out 1).trans rfl, (blk_cell BK390.out 0).trans rfl, (blk_cell BK390.out 1).trans rfl⟩ (fun hHeld => ?_)
       clear hK K
       refine norm_ (a' := ?_) ?_ ?_
       rotate_left
       ·
        show Act.put _ (some 38) _ = _
        simp only [Act.put, List.setIfInBounds_toArray, List.set_cons_zero, List.set_cons_succ, i64_w, i32_w]
        rfl
       refine one_ (i := 4) (N := some 40) #[true, true, true, true, true, true, false, false, false, false, false, false, false, false, false] rfl rfl (one_of HT_.out (by kernel_rfl)) (by decide) (fun K hK => ?_)
       refine goes_ Try.func23 (by kernel_rfl) rfl #[.agg #[.int .i64 a0_0, .int .u64 a0_1]] (by rfl) rfl rfl (by (try simp only [List.map_toArray, List.map_cons, List.map_nil]); first | done | rfl | (simp only [List.length_drop, List.length_take]; rfl)) ?_
       with_reducible refine (compasslaw01_wide.calls kj3 a0_0 a0_1 t415 t416 _ A41.out).mono ?_
       rintro e w56 ⟨v417, rfl, ho0, hb⟩
       refine ⟨_, rfl, ?_⟩
       have n0_ := ak (Kd.R_elder' (rx HO400.out) (Kd.R_base ho0) hb)
       have n1_ := ak (Kd.R_elder' (rx HO404.out) (Kd.R_base ho0) hb)
       have n2_ := ak (Kd.R_elder' (rx HO408.out) (Kd.R_base ho0) hb)
       have n3_ := ak (Kd.R_elder' (rx HO412.out) (Kd.R_base ho0) hb)
       have n4_ := ak (Kd.R_lower (Kd.R_new' (Kd.R_new' (Kd.R_new' (Kd.R_new' ho0 (Kd.R_lt (rx HO400.out))) (Kd.R_lt (rx HO404.out))) (Kd.R_lt (rx HO408.out))) (Kd.R_lt (rx HO412.out))) (below_size (by repeat (first | (with_reducible first | exact HB.out | apply below_alloc | apply pw_below_drewN | apply below_drew1 | refine below_set ?_ GE389.out | refine below_set ?_ GE390.out | refine below_set ?_ GE396.out) | exact HB.out))))
       have n5_ := ak (blk_below (g := gb389) (o := .cells #[.int .i64 a0_0, .int .u64 a0_1] 50 (0, 0)) (bx BK389.out) hb)
       have n6_ := ak (blk_below (g := gb390) (o := .cells #[.int .i64 a1_0, .int .u64 a1_1] 50 (0, 0)) (bx BK390.out) hb)
       have n7_ := ak (blk_below (g := gb396) (o := .cells #[.int .i64 t394, .int .u64 t395] 50 (0, 0)) (bx BK396.out) hb)
       have n8_ := ak (below_step (by repeat (first | (with_reducible first | exact HB.out | apply below_alloc | apply pw_below_drewN | apply below_drew1 | refine below_set ?_ GE389.out | refine below_set ?_ GE390.out | refine below_set ?_ GE396.out) | exact HB.out)) hb)
       clear HO400
       clear HO404
       clear HO408
       clear HO412
       clear BK389
       clear BK390
       clear BK396
       clear HB
       have HO400 := n0_
       have HO404 := n1_
       have HO408 := n2_
       have HO412 := n3_
       have HO418 := n4_
       have BK389 := n5_
       have BK390 := n6_
       have BK396 := n7_
       have HB := n8_
       clear n0_ n1_ n2_ n3_ n4_ n5_ n6_ n7_ n8_
       (try clear hb)
       (try clear hb2)
       (try clear hk)
       (try clear hi)
       (try clear ho0)
       refine hK.out _ _ ⟨(blk_cell BK389.out 0).trans rfl, (blk_cell BK389.out 1).trans rfl, (blk_cell BK390.out 0).trans rfl, (blk_cell BK390.out 1).trans rfl⟩ (fun hHeld => ?_)
       clear hK K
       refine norm_ (a' := ?_) ?_ ?_
       rotate_left
       ·
        show Act.put _ (some 40) _ = _
        simp only [Act.put, List.setIfInBounds_toArray, List.set_cons_zero, List.set_cons_succ, i64_w, i32_w]
        rfl
       refine one_ (i := 6) (N := some 42) #[true, true, true, true, true, true, true, false, false, false, false, false, false, false, false] rfl rfl (one_of HT_.out (by kernel_rfl)) (by decide) (fun K hK => ?_)
       refine goes_ Try.func23 (by kernel_rfl) rfl #[.agg #[.int .i64 a1_0, .int .u64 a1_1]] (by rfl) rfl rfl (by (try simp only [List.map_toArray, List.map_cons, List.map_nil]); first | done | rfl | (simp only [List.length_drop, List.length_take]; rfl)) ?_
       with_reducible refine (compasslaw01_wide.calls kj3 a1_0 a1_1 t419 t420 _ A42.out).mono ?_
       rintro e w57 ⟨v421, rfl, ho0, hb⟩
       refine ⟨_, rfl, ?_⟩
       have n0_ := ak (Kd.R_elder' (rx HO400.out) (Kd.R_base ho0) hb)
       have n1_ := ak (Kd.R_elder' (rx HO404.out) (Kd.R_base ho0) hb)
       have n2_ := ak (Kd.R_elder' (rx HO408.out) (Kd.R_base ho0) hb)
       have n3_ := ak (Kd.R_elder' (rx HO412.out) (Kd.R_base ho0) hb)
       have n4_ := ak (Kd.R_elder' (rx HO418.out) (Kd.R_base ho0) hb)
       have n5_ := ak (Kd.R_lower (Kd.R_new' (Kd.R_new' (Kd.R_new' (Kd.R_new' (Kd.R_new' ho0 (Kd.R_lt (rx HO400.out))) (Kd.R_lt (rx HO404.out))) (Kd.R_lt (rx HO408.out))) (Kd.R_lt (rx HO412.out))) (Kd.R_lt (rx HO418.out))) (below_size (by repeat (first | (with_reducible first | exact HB.out | apply below_alloc | apply pw_below_drewN | apply below_drew1 | refine below_set ?_ GE389.out | refine below_set ?_ GE390.out | refine below_set ?_ GE396.out) | exact HB.out))))
       have n6_ := ak (blk_below (g := gb389) (o := .cells #[.int .i64 a0_0, .int .u64 a0_1] 50 (0, 0)) (bx BK389.out) hb)
       have n7_ := ak (blk_below (g := gb390) (o := .cells #[.int .i64 a1_0, .int .u64 a1_1] 50 (0, 0)) (bx BK390.out) hb)
       have n8_ := ak (blk_below (g := gb396) (o := .cells #[.int .i64 t394, .int .u64 t395] 50 (0, 0)) (bx BK396.out) hb)
       have n9_ := ak (below_step (by repeat (first | (with_reducible first | exact HB.out | apply below_alloc | apply pw_below_drewN | apply below_drew1 | refine below_set ?_ GE389.out | refine below_set ?_ GE390.out | refine below_set ?_ GE396.out) | exact HB.out)) hb)
       clear HO400
       clear HO404
       clear HO408
       clear HO412
       clear HO418
       clear BK389
       clear BK390
       clear BK396
       clear HB
       have HO400 := n0_
       have HO404 := n1_
       have HO408 := n2_
       have HO412 := n3_
       have HO418 := n4_
       have HO422 := n5_
       have BK389 := n6_
       have BK390 := n7_
       have BK396 := n8_
       have HB := n9_
       clear n0_ n1_ n2_ n3_ n4_ n5_ n6_ n7_ n8_ n9_
       (try clear hb)
       (try clear hb2)
       (try clear hk)
       (try clear hi)
       (try clear ho0)
       obtain ⟨Ao58, co58, eo58⟩ := Kd.R_slice HO418.out
       (first | subst eo58 | (injection eo58 with f1_ f2_ f3_; have f4_ := f1_.symm; have f5_ := f3_.symm; clear f1_ f2_ f3_; subst f4_; subst f5_))
       obtain ⟨Ao59, co59, eo59⟩ := Kd.R_slice HO422.out
       (first | subst eo59 | (injection eo59 with f1_ f2_ f3_; have f4_ := f1_.symm; have f5_ := f3_.symm; clear f1_ f2_ f3_; subst f4_; subst f5_))
       refine hK.out _ _ ⟨(blk_cell BK389.out 0).trans rfl, (blk_cell BK389.out 1).trans rfl, (blk_cell BK390.out 0).trans rfl, (blk_cell BK390.out 1).trans rfl⟩ (fun hHeld => ?_)
       clear hK K
       refine norm_ (a' := ?_) ?_ ?_
       rotate_left
       ·
        show Act.put _ (some 42) _ = _
        simp only [Act.put, List.setIfInBounds_toArray, List.set_cons_zero, List.set_cons_succ, i64_w, i32_w]
        rfl
       refine one_ (i := 7) (N := some 43) #[true, true, true, true, true, true, true, true, false, false, false, false, false, false, false] rfl rfl (one_of HT_.out (by kernel_rfl)) (by decide) (fun K hK => ?_)
       refine goes_ Try.func16 (by kernel_rfl) rfl #[.agg #[.bool t415, .slice Ao58 t416.length co58], .agg #[.bool t419, .slice Ao59 t420.length co59]] (by rfl) rfl rfl (by (try simp only [List.map_toArray, List.map_cons, List.map_nil]); first | done | rfl | (simp only [List.length_drop, List.length_take]; rfl)) ?_
       with_reducible refine (compassref01_Compare.calls kj3 t415 _ _ t416 t419 _ _ t420 t423 _ ?side1 ?side2 ?side3 ?side4 A43.out).mono ?_
       (case side1 => repeat (first | exact (Kd.R_reads' HO418.out).2.2 | (with_reducible refine Kd.C_alloc ?_ _) | (with_reducible refine Kd.C_drewN ?_ _) | (with_reducible refine Kd.C_drew ?_)))
       (case side2 => exact (Kd.R_reads' HO418.out).2.1)
       (case side3 => repeat (first | exact (Kd.R_reads' HO422.out).2.2 | (with_reducible refine Kd.C_alloc ?_ _) | (with_reducible refine Kd.C_drewN ?_ _) | (with_reducible refine Kd.C_drew ?_)))
       (case side4 => exact (Kd.R_reads' HO422.out).2.1)
       rintro e w60 ⟨rfl, hb⟩
       refine ⟨_, rfl, ?_⟩
       have n0_ := ak (Kd.R_below (rx HO400.out) hb)
       have n1_ := ak (Kd.R_below (rx HO404.out) hb)
       have n2_ := ak (Kd.R_below (rx HO408.out) hb)
       have n3_ := ak (Kd.R_below (rx HO412.out) hb)
       have n4_ := ak (Kd.R_below (rx HO418.out) hb)
       have n5_ := ak (Kd.R_below (rx HO422.out) hb)
       have n6_ := ak (blk_below (g := gb389) (o := .cells #[.int .i64 a0_0, .int .u64 a0_1] 50 (0, 0)) (bx BK389.out) hb)
       have n7_ := ak (blk_below (g := gb390) (o := .cells #[.int .i64 a1_0, .int .u64 a1_1] 50 (0, 0)) (bx BK390.out) hb)
       have n8_ := ak (blk_below (g := gb396) (o := .cells #[.int .i64 t394, .int .u64 t395] 50 (0, 0)) (bx BK396.out) hb)
       have n9_ := ak (below_step (by repeat (first | (with_reducible first | exact HB.out | apply below_alloc | apply pw_below_drewN | apply below_drew1 | refine below_set ?_ GE389.out | refine below_set ?_ GE390.out | refine below_set ?_ GE396.out) | exact HB.out)) hb)
       clear HO400
       clear HO404
       clear HO408
       clear HO412
       clear HO418
       clear HO422
       clear BK389
       clear BK390
       clear BK396
       clear HB
       have HO400 := n0_
       have HO404 := n1_
       have HO408 := n2_
       have HO412 := n3_
       have HO418 := n4_
       have HO422 := n5_
       have BK389 := n6_
       have BK390 := n7_
       have BK396 := n8_
       have HB := n9_
       clear n0_ n1_ n2_ n3_ n4_ n5_ n6_ n7_ n8_ n9_
       (try clear hb)
       (try clear hb2)
       (try clear hk)
       (try clear hi)
       refine hK.out _ _ ⟨(blk_cell BK389.out 0).trans rfl, (blk_cell BK389.out 1).trans rfl, (blk_cell BK390.out 0).trans rfl, (blk_cell BK390.out 1).trans rfl⟩ (fun hHeld => ?_)
       clear hK K
       refine norm_ (a' := ?_) ?_ ?_
       rotate_left
       ·
        show Act.put _ (some 43) _ = _
        simp only [Act.put, List.setIfInBounds_toArray, List.set_cons_zero, List.set_cons_succ, i64_w, i32_w]
        rfl
       refine pure_ (i := 8) (N := some 44) (v := ?_) (a' := ?_) #[true, true, true, true, true, true, true, true, true, false, false, false, false, false, false] rfl rfl (any_of HT_.out (by kernel_rfl)) (fun _ _ _ h => h) (Or.inl ⟨by rfl, ?_⟩) ?_ ?_
       rotate_left
       ·
        intro w'
        go_simp
        with_reducible rfl
       rotate_left
       ·
        simp only [Act.put, List.setIfInBounds_toArray, List.set_cons_zero, List.set_cons_succ, i64_w, i32_w]
        rfl
       refine pure_ (i := 9) (N := some 45) (v := ?_) (a' := ?_) #[true, true, true, true, true, true, true, true, true, true, false, false, false, false, false] rfl rfl (any_of HT_.out (by kernel_rfl)) (fun _ _ _ h => h) (Or.inl ⟨by rfl, ?_⟩) ?_ ?_
       rotate_left
       ·
        intro w'
        go_simp
        with_reducible rfl
       rotate_left
       ·
        simp only [Act.put, List.setIfInBounds_toArray, List.set_cons_zero, List.set_cons_succ, i64_w, i32_w]
        rfl
       refine pure_ (i := 10) (N := some 46) (v := undef) (a' := ?_) #[true, true, true, true, true, true, true, true, true, true, true, false, false, false, false] rfl rfl (any_of HT_.out (by kernel_rfl)) (fun _ _ _ h => h) (Or.inr ⟨by rfl, rfl⟩) ?_ ?_
       rotate_left
       ·
        simp only [Act.put, List.setIfInBounds_toArray, List.set_cons_zero, List.set_cons_succ, i64_w, i32_w]
        rfl
       refine pure_ (i := 11) (N := some 47) (v := undef) (a' := ?_) #[true, true, true, true, true, true, true, true, true, true, true, true, false, false, false] rfl rfl (any_of HT_.out (by kernel_rfl)) (fun _ _ _ h => h) (Or.inr ⟨by rfl, rfl⟩) ?_ ?_
       rotate_left
       ·
        simp only [Act.put, List.setIfInBounds_toArray, List.set_cons_zero, List.set_cons_succ, i64_w, i32_w]
        rfl
       refine pure_ (i := 12) (N := some 48) (v := undef) (a' := ?_) #[true, true, true, true, true, true, true, true, true, true, true, true, true, false, false] rfl rfl (any_of HT_.out (by kernel_rfl)) (fun _ _ _ h => h) (Or.inr ⟨by rfl, rfl⟩) ?_ ?_
       rotate_left
       ·
        simp only [Act.put, List.setIfInBounds_toArray, List.set_cons_zero, List.set_cons_succ, i64_w, i32_w]
        rfl
       refine pure_ (i := 13) (N := some 49) (v := undef) (a' := ?_) #[true, true, true, true, true, true, true, true, true, true, true, true, true, true, false] rfl rfl (any_of HT_.out (by kernel_rfl)) (fun _ _ _ h => h) (Or.inr ⟨by rfl, rfl⟩) ?_ ?_
       rotate_left
       ·
        simp only [Act.put, List.setIfInBounds_toArray, List.set_cons_zero, List.set_cons_succ, i64_w, i32_w]
        rfl
       refine pure_ (i := 14) (N := some 50) (v := ?_) (a' := ?_) #[true, true, true, true, true, true, true, true, true, true, true, true, true, true, true] rfl rfl (any_of HT_.out (by kernel_rfl)) (fun _ _ _ h => h) (Or.inl ⟨by rfl, ?_⟩) ?_ ?_
       rotate_left
       ·
        intro w'
        go_simp
        with_reducible rfl
       rotate_left
       ·
        simp only [Act.put, List.setIfInBounds_toArray, List.set_cons_zero, List.set_cons_succ, i64_w, i32_w]
        rfl
       refine done_ (done_of HT_.out (by kernel_rfl)) ?_
       try go_wp2
       go_meet
       case rel => exact ⟨_, (true), (by first | rfl | (simp; done) | (simp [*]; done)), H', ⟨by have := HJ3.out; first | omega | exact Nat.le_refl _⟩, ⟨by exact bx BK389.out⟩, ⟨by exact bx BK390.out⟩, ⟨by exact bx BK396.out⟩, ⟨by repeat (first | (with_reducible first | exact HB.out | apply below_alloc | apply pw_below_drewN | apply below_drew1 | refine below_set ?_ GE389.out | refine below_set ?_ GE390.out | refine below_set ?_ GE396.out) | exact HB.out)⟩⟩
     case rest =>
      clear HC21
      try clear c1
      try clear c2
      try clear p2
      try clear c4
      try clear c16
      try clear c23
      try clear c24
      try clear c44
      try clear c44b0
      try clear c44b1
      obtain ⟨kq, x50_20, rfl, HA, HJ20, BK389, BK390, BK396, HB⟩ := hcut
      cases kq with
      | zero => exact absurd HA.out (by simp [compasslaw01_SafeWides.j1])
      | succ kj20 =>
       have H := HA.out
       clear HA
       simp only [compasslaw01_SafeWides.j1] at H
       by_cases c61 : x50_20 = true
       ·
        subst c61
        have H1 : (some false) = some r := by rw [if_pos rfl] at H; exact H
        clear H
        have H := H1
        clear H1
        exact absurd ((Option.some.inj H).trans HR_.out) (by decide)
       ·
        replace c61 := Bool.eq_false_iff.mpr c61
        subst c61
        have H1 : ((safeint_Narrow.f a0_0 a0_1).bind fun bt425 => ((compasslaw01_wide.f kj20 a0_0 a0_1).bind fun bt427 => ((compassref01_Narrow.f kj20 bt427.1 bt427.2).bind fun bt431 => (if bt425.1 = bt431.1 then (if bt425.2 = bt431.2 then ((safeint_Widen.f a2).bind fun bt433 => ((compasslaw01_wide.f kj20 bt433.1 bt433.2).bind fun bt435 => ((compassref01_Of.f kj20 a2).bind fun bt439 => ((compassref01_Compare.f kj20 bt435.1 bt435.2 bt439.1 bt439.2).bind fun t443 => (compasslaw01_SafeWides.j2 kj20 (t443 != 0) a0_0 a0_1 a1_0 a1_1))))) else (compasslaw01_SafeWides.j2 kj20 true a0_0 a0_1 a1_0 a1_1)) else (compasslaw01_SafeWides.j2 kj20 true a0_0 a0_1 a1_0 a1_1))))) = some r := by rw [if_neg (show ¬ (false = true) by decide)] at H; exact H
        clear H
        have H := H1
        clear H1
        replace H := Option.bind_eq_some_iff.mp H
        obtain ⟨⟨t425, t426⟩, A620, H⟩ := H
        replace H : ((compasslaw01_wide.f kj20 a0_0 a0_1).bind fun bt427 => ((compassref01_Narrow.f kj20 bt427.1 bt427.2).bind fun bt431 => (if t425 = bt431.1 then (if t426 = bt431.2 then ((safeint_Widen.f a2).bind fun bt433 => ((compasslaw01_wide.f kj20 bt433.1 bt433.2).bind fun bt435 => ((compassref01_Of.f kj20 a2).bind fun bt439 => ((compassref01_Compare.f kj20 bt435.1 bt435.2 bt439.1 bt439.2).bind fun t443 => (compasslaw01_SafeWides.j2 kj20 (t443 != 0) a0_0 a0_1 a1_0 a1_1))))) else (compasslaw01_SafeWides.j2 kj20 true a0_0 a0_1 a1_0 a1_1)) else (compasslaw01_SafeWides.j2 kj20 true a0_0 a0_1 a1_0 a1_1)))) = some r := H
        have A62 := ak A620
        clear A620
        replace H := Option.bind_eq_some_iff.mp H
        obtain ⟨⟨t427, t428⟩, A630, H⟩ := H
        replace H : ((compassref01_Narrow.f kj20 t427 t428).bind fun bt431 => (if t425 = bt431.1 then (if t426 = bt431.2 then ((safeint_Widen.f a2).bind fun bt433 => ((compasslaw01_wide.f kj20 bt433.1 bt433.2).bind fun bt435 => ((compassref01_Of.f kj20 a2).bind fun bt439 => ((compassref01_Compare.f kj20 bt435.1 bt435.2 bt439.1 bt439.2).bind fun t443 => (compasslaw01_SafeWides.j2 kj20 (t443 != 0) a0_0 a0_1 a1_0 a1_1))))) else (compasslaw01_SafeWides.j2 kj20 true a0_0 a0_1 a1_0 a1_1)) else (compasslaw01_SafeWides.j2 kj20 true a0_0 a0_1 a1_0 a1_1))) = some r := H
        have A63 := ak A630
        clear A630
        replace H := Option.bind_eq_some_iff.mp H
        obtain ⟨⟨t431, t432⟩, A640, H⟩ := H
        replace H : (if t425 = t431 then (if t426 = t432 then ((safeint_Widen.f a2).bind fun bt433 => ((compasslaw01_wide.f kj20 bt433.1 bt433.2).bind fun bt435 => ((compassref01_Of.f kj20 a2).bind fun bt439 => ((compassref01_Compare.f kj20 bt435.1 bt435.2 bt439.1 bt439.2).bind fun t443 => (compasslaw01_SafeWides.j2 kj20 (t443 != 0) a0_0 a0_1 a1_0 a1_1))))) else (compasslaw01_SafeWides.j2 kj20 true a0_0 a0_1 a1_0 a1_1)) else (compasslaw01_SafeWides.j2 kj20 true a0_0 a0_1 a1_0 a1_1)) = some r := H
        have A64 := ak A640
        clear A640
        have HC65 := ak H
        clear H
        have hnb66 := NB389_390.out
        have hnc66 := NB390_389.out
        have hnb67 := NB389_396.out
        have hnc67 := NB396_389.out
        have hcz68_0 : wc.cell? ⟨gb389, 0, none⟩ = some (.int .i64 a0_0) := (blk_cell BK389.out 0).trans rfl
        have hcz68_1 : wc.cell? ⟨gb389, 1, none⟩ = some (.int .u64 a0_1) := (blk_cell BK389.out 1).trans rfl
        have hfz68_0 := blk_frozen BK389.out 0
        have hfz68_1 := blk_frozen BK389.out 1
        go_upto_region 10 with (first | ((with_reducible refine gate_callee (f := 25) rfl ?_); refine goesL_ (some 53) rfl rfl Try.func25 (by kernel_rfl) rfl #[.agg #[.int .i64 a0_0, .int .u64 a0_1]] rfl (by (try simp only [List.map_toArray, List.map_cons, List.map_nil]); first | done | rfl | (simp only [List.length_drop, List.length_take]; rfl)) ?_; (with_reducible refine (safeint_Narrow.calls a0_0 a0_1 t425 t426 _ A62.out).mono ?_); rintro e w69 ⟨rfl, hb⟩; refine ⟨_, rfl, ?_⟩; have n0_ := ak (blk_below (g := gb389) (o := .cells #[.int .i64 a0_0, .int .u64 a0_1] 50 (0, 0)) (bx BK389.out) hb); have n1_ := ak (blk_below (g := gb390) (o := .cells #[.int .i64 a1_0, .int .u64 a1_1] 50 (0, 0)) (bx BK390.out) hb); have n2_ := ak (blk_below (g := gb396) (o := .cells #[.int .i64 t394, .int .u64 t395] 50 (0, 0)) (bx BK396.out) hb); have n3_ := ak (below_step (by repeat (first | (with_reducible first | exact HB.out | apply below_alloc | apply pw_below_drewN | apply below_drew1 | refine below_set ?_ GE389.out | refine below_set ?_ GE390.out | refine below_set ?_ GE396.out) | exact HB.out)) hb); clear BK389; clear BK390; clear BK396; clear HB; have BK389 := n0_; have BK390 := n1_; have BK396 := n2_; have HB := n3_; clear n0_ n1_ n2_ n3_; (try clear hb); (try clear hb2); (try clear hk); (try clear hi); have hcz70_0 : w69.cell? ⟨gb389, 0, none⟩ = some (.int .i64 a0_0) := (blk_cell BK389.out 0).trans rfl; have hcz70_1 : w69.cell? ⟨gb389, 1, none⟩ = some (.int .u64 a0_1) := (blk_cell BK389.out 1).trans rfl; have hfz70_0 := blk_frozen BK389.out 0; have hfz70_1 := blk_frozen BK389.out 1) | ((with_reducible refine gate_callee (f := 23) rfl ?_); refine goesL_ (some 58) rfl rfl Try.func23 (by kernel_rfl) rfl #[.agg #[.int .i64 a0_0, .int .u64 a0_1]] rfl (by (try simp only [List.map_toArray, List.map_cons, List.map_nil]); first | done | rfl | (simp only [List.length_drop, List.length_take]; rfl)) ?_; (with_reducible refine (compasslaw01_wide.calls kj20 a0_0 a0_1 t427 t428 _ A63.out).mono ?_); rintro e w71 ⟨v429, rfl, ho0, hb⟩; refine ⟨_, rfl, ?_⟩; have n0_ := ak (Kd.R_lower ho0 (below_size (by repeat (first | (with_reducible first | exact HB.out | apply below_alloc | apply pw_below_drewN | apply below_drew1 | refine below_set ?_ GE389.out | refine below_set ?_ GE390.out | refine below_set ?_ GE396.out) | exact HB.out)))); have n1_ := ak (blk_below (g := gb389) (o := .cells #[.int .i64 a0_0, .int .u64 a0_1] 50 (0, 0)) (bx BK389.out) hb); have n2_ := ak (blk_below (g := gb390) (o := .cells #[.int .i64 a1_0, .int .u64 a1_1] 50 (0, 0)) (bx BK390.out) hb); have n3_ := ak (blk_below (g := gb396) (o := .cells #[.int .i64 t394, .int .u64 t395] 50 (0, 0)) (bx BK396.out) hb); have n4_ := ak (below_step (by repeat (first | (with_reducible first | exact HB.out | apply below_alloc | apply pw_below_drewN | apply below_drew1 | refine below_set ?_ GE389.out | refine below_set ?_ GE390.out | refine below_set ?_ GE396.out) | exact HB.out)) hb); clear BK389; clear BK390; clear BK396; clear HB; have HO430 := n0_; have BK389 := n1_; have BK390 := n2_; have BK396 := n3_; have HB := n4_; clear n0_ n1_ n2_ n3_ n4_; (try clear hb); (try clear hb2); (try clear hk); (try clear hi); (try clear ho0); obtain ⟨Ao72, co72, eo72⟩ := Kd.R_slice HO430.out; subst eo72) | ((with_reducible refine gate_callee (f := 26) rfl ?_); refine goesL_ (some 59) rfl rfl Try.func26 (by kernel_rfl) rfl #[.agg #[.bool t427, .slice Ao72 t428.length co72]] rfl (by (try simp only [List.map_toArray, List.map_cons, List.map_nil]); first | done | rfl | (simp only [List.length_drop, List.length_take]; rfl)) ?_; (with_reducible refine (compassref01_Narrow.calls kj20 t427 _ _ t428 t431 t432 _ ?side1 ?side2 A64.out).mono ?_); (case side1 => repeat (first | exact (Kd.R_reads' HO430.out).2.2 | (with_reducible refine Kd.C_alloc ?_ _) | (with_reducible refine Kd.C_drewN ?_ _) | (with_reducible refine Kd.C_drew ?_))); (case side2 => exact (Kd.R_reads' HO430.out).2.1); rintro e w73 ⟨rfl, hb⟩; refine ⟨_, rfl, ?_⟩; have n0_ := ak (Kd.R_below (rx HO430.out) hb); have n1_ := ak (blk_below (g := gb389) (o := .cells #[.int .i64 a0_0, .int .u64 a0_1] 50 (0, 0)) (bx BK389.out) hb); have n2_ := ak (blk_below (g := gb390) (o := .cells #[.int .i64 a1_0, .int .u64 a1_1] 50 (0, 0)) (bx BK390.out) hb); have n3_ := ak (blk_below (g := gb396) (o := .cells #[.int .i64 t394, .int .u64 t395] 50 (0, 0)) (bx BK396.out) hb); have n4_ := ak (below_step (by repeat (first | (with_reducible first | exact HB.out | apply below_alloc | apply pw_below_drewN | apply below_drew1 | refine below_set ?_ GE389.out | refine below_set ?_ GE390.out | refine below_set ?_ GE396.out) | exact HB.out)) hb); clear HO430; clear BK389; clear BK390; clear BK396; clear HB; have HO430 := n0_; have BK389 := n1_; have BK390 := n2_; have BK396 := n3_; have HB := n4_; clear n0_ n1_ n2_ n3_ n4_; (try clear hb); (try clear hb2); (try clear hk); (try clear hi)))
        (try simp only [Act.put, List.setIfInBounds_toArray, List.set_cons_zero, List.set_cons_succ])
        go_cut [78] (fun v78 wc => ∃ (kq : Nat) (x78_64 : Bool), v78 = .bool x78_64 ∧ Aside0 (compasslaw01_SafeWides.j2 kq x78_64 a0_0 a0_1 a1_0 a1_1 = some r) ∧ Aside0 (kq ≤ kj20) ∧ Aside0 (wc.heap[gb389]? = some (.cells #[.int .i64 a0_0, .int .u64 a0_1] 50 (0, 0))) ∧ Aside0 (wc.heap[gb390]? = some (.cells #[.int .i64 a1_0, .int .u64 a1_1] 50 (0, 0))) ∧ Aside0 (wc.heap[gb396]? = some (.cells #[.int .i64 t394, .int .u64 t395] 50 (0, 0))) ∧ Aside0 (Below w.heap.size w wc))
        case first =>
         have H := HC65.out
         clear HC65
         by_cases c74 : t425 = t431
         ·
          rw [if_pos c74] at H
          have c74b0 : (t425 == t431) = true := beq_iff_eq.mpr c74
          have c74b1 : (t425 != t431) = false := bne_eq_false_iff_eq.mpr c74
          clear c74
          (first | rw [c74b0] | (simp only [i64_w, i32_w]; rw [c74b0]) | skip)
          by_cases c75 : t426 = t432
          ·
           rw [if_pos c75] at H
           have c75b0 : (t426 == t432) = true := beq_iff_eq.mpr c75
           have c75b1 : (t426 != t432) = false := bne_eq_false_iff_eq.mpr c75
           clear c75
           replace H := Option.bind_eq_some_iff.mp H
           obtain ⟨⟨t433, t434⟩, A760, H⟩ := H
           replace H : ((compasslaw01_wide.f kj20 t433 t434).bind fun bt435 => ((compassref01_Of.f kj20 a2).bind fun bt439 => ((compassref01_Compare.f kj20 bt435.1 bt435.2 bt439.1 bt439.2).bind fun t443 => (compasslaw01_SafeWides.j2 kj20 (t443 != 0) a0_0 a0_1 a1_0 a1_1)))) = some r := H
           have A76 := ak A760
           clear A760
           replace H := Option.bind_eq_some_iff.mp H
           obtain ⟨⟨t435, t436⟩, A770, H⟩ := H
           replace H : ((compassref01_Of.f kj20 a2).bind fun bt439 => ((compassref01_Compare.f kj20 t435 t436 bt439.1 bt439.2).bind fun t443 => (compasslaw01_SafeWides.j2 kj20 (t443 != 0) a0_0 a0_1 a1_0 a1_1))) = some r := H
           have A77 := ak A770
           clear A770
           replace H := Option.bind_eq_some_iff.mp H
           obtain ⟨⟨t439, t440⟩, A780, H⟩ := H
           replace H : ((compassref01_Compare.f kj20 t435 t436 t439 t440).bind fun t443 => (compasslaw01_SafeWides.j2 kj20 (t443 != 0) a0_0 a0_1 a1_0 a1_1)) = some r := H
           have A78 := ak A780
           clear A780
           replace H := Option.bind_eq_some_iff.mp H
           obtain ⟨t443, A790, H⟩ := H
           replace H : (compasslaw01_SafeWides.j2 kj20 (t443 != 0) a0_0 a0_1 a1_0 a1_1) = some r := H
           have A79 := ak A790
           clear A790
           have H' := ak H
           clear H
           go_wp2_with (first | (go_at_call 27; (with_reducible refine (safeint_Widen.calls a2 t433 t434 _ A76.out).mono ?_); rintro e w80 ⟨rfl, hb⟩; have n0_ := ak (Kd.R_below (rx HO430.out) hb); have n1_ := ak (blk_below (g := gb389) (o := .cells #[.int .i64 a0_0, .int .u64 a0_1] 50 (0, 0)) (bx BK389.out) hb); have n2_ := ak (blk_below (g := gb390) (o := .cells #[.int .i64 a1_0, .int .u64 a1_1] 50 (0, 0)) (bx BK390.out) hb); have n3_ := ak (blk_below (g := gb396) (o := .cells #[.int .i64 t394, .int .u64 t395] 50 (0, 0)) (bx BK396.out) hb); have n4_ := ak (below_step (by repeat (first | (with_reducible first | exact HB.out | apply below_alloc | apply pw_below_drewN | apply below_drew1 | refine below_set ?_ GE389.out | refine below_set ?_ GE390.out | refine below_set ?_ GE396.out) | exact HB.out)) hb); clear HO430; clear BK389; clear BK390; clear BK396; clear HB; have HO430 := n0_; have BK389 := n1_; have BK390 := n2_; have BK396 := n3_; have HB := n4_; clear n0_ n1_ n2_ n3_ n4_; (try clear hb); (try clear hb2); (try clear hk); (try clear hi)) | (go_at_call 23; (with_reducible refine (compasslaw01_wide.calls kj20 t433 t434 t435 t436 _ A77.out).mono ?_); rintro e w81 ⟨v437, rfl, ho0, hb⟩; have n0_ := ak (Kd.R_elder' (rx HO430.out) (Kd.R_base ho0) hb); have n1_ := ak (Kd.R_lower (Kd.R_new' ho0 (Kd.R_lt (rx HO430.out))) (below_size (by repeat (first | (with_reducible first | exact HB.out | apply below_alloc | apply pw_below_drewN | apply below_drew1 | refine below_set ?_ GE389.out | refine below_set ?_ GE390.out | refine below_set ?_ GE396.out) | exact HB.out)))); have n2_ := ak (blk_below (g := gb389) (o := .cells #[.int .i64 a0_0, .int .u64 a0_1] 50 (0, 0)) (bx BK389.out) hb); have n3_ := ak (blk_below (g := gb390) (o := .cells #[.int .i64 a1_0, .int .u64 a1_1] 50 (0, 0)) (bx BK390.out) hb); have n4_ := ak (blk_below (g := gb396) (o := .cells #[.int .i64 t394, .int .u64 t395] 50 (0, 0)) (bx BK396.out) hb); have n5_ := ak (below_step (by repeat (first | (with_reducible first | exact HB.out | apply below_alloc | apply pw_below_drewN | apply below_drew1 | refine below_set ?_ GE389.out | refine below_set ?_ GE390.out | refine below_set ?_ GE396.out) | exact HB.out)) hb); clear HO430; clear BK389; clear BK390; clear BK396; clear HB; have HO430 := n0_; have HO438 := n1_; have BK389 := n2_; have BK390 := n3_; have BK396 := n4_; have HB := n5_; clear n0_ n1_ n2_ n3_ n4_ n5_; (try clear hb); (try clear hb2); (try clear hk); (try clear hi); (try clear ho0)) | (go_at_call 15; (with_reducible refine (compassref01_Of.calls kj20 a2 t439 t440 _ A78.out).mono ?_); rintro e w82 ⟨v441, rfl, ho0, hb⟩; have n0_ := ak (Kd.R_elder' (rx HO430.out) (Kd.R_base ho0) hb); have n1_ := ak (Kd.R_elder' (rx HO438.out) (Kd.R_base ho0) hb); have n2_ := ak (Kd.R_lower (Kd.R_new' (Kd.R_new' ho0 (Kd.R_lt (rx HO430.out))) (Kd.R_lt (rx HO438.out))) (below_size (by repeat (first | (with_reducible first | exact HB.out | apply below_alloc | apply pw_below_drewN | apply below_drew1 | refine below_set ?_ GE389.out | refine below_set ?_ GE390.out | refine below_set ?_ GE396.out) | exact HB.out)))); have n3_ := ak (blk_below (g := gb389) (o := .cells #[.int .i64 a0_0, .int .u64 a0_1] 50 (0, 0)) (bx BK389.out) hb); have n4_ := ak (blk_below (g := gb390) (o := .cells #[.int .i64 a1_0, .int .u64 a1_1] 50 (0, 0)) (bx BK390.out) hb); have n5_ := ak (blk_below (g := gb396) (o := .cells #[.int .i64 t394, .int .u64 t395] 50 (0, 0)) (bx BK396.out) hb); have n6_ := ak (below_step (by repeat (first | (with_reducible first | exact HB.out | apply below_alloc | apply pw_below_drewN | apply below_drew1 | refine below_set ?_ GE389.out | refine below_set ?_ GE390.out | refine below_set ?_ GE396.out) | exact HB.out)) hb); clear HO430; clear HO438; clear BK389; clear BK390; clear BK396; clear HB; have HO430 := n0_; have HO438 := n1_; have HO442 := n2_; have BK389 := n3_; have BK390 := n4_; have BK396 := n5_; have HB := n6_; clear n0_ n1_ n2_ n3_ n4_ n5_ n6_; (try clear hb); (try clear hb2); (try clear hk); (try clear hi); (try clear ho0); obtain ⟨Ao83, co83, eo83⟩ := Kd.R_slice HO438.out; subst eo83; obtain ⟨Ao84, co84, eo84⟩ := Kd.R_slice HO442.out; subst eo84) | (go_at_call 16; (with_reducible refine (compassref01_Compare.calls kj20 t435 _ _ t436 t439 _ _ t440 t443 _ ?side1 ?side2 ?side3 ?side4 A79.out).mono ?_); (case side1 => repeat (first | exact (Kd.R_reads' HO438.out).2.2 | (with_reducible refine Kd.C_alloc ?_ _) | (with_reducible refine Kd.C_drewN ?_ _) | (with_reducible refine Kd.C_drew ?_))); (case side2 => exact (Kd.R_reads' HO438.out).2.1); (case side3 => repeat (first | exact (Kd.R_reads' HO442.out).2.2 | (with_reducible refine Kd.C_alloc ?_ _) | (with_reducible refine Kd.C_drewN ?_ _) | (with_reducible refine Kd.C_drew ?_))); (case side4 => exact (Kd.R_reads' HO442.out).2.1); rintro e w85 ⟨rfl, hb⟩; have n0_ := ak (Kd.R_below (rx HO430.out) hb); have n1_ := ak (Kd.R_below (rx HO438.out) hb); have n2_ := ak (Kd.R_below (rx HO442.out) hb); have n3_ := ak (blk_below (g := gb389) (o := .cells #[.int .i64 a0_0, .int .u64 a0_1] 50 (0, 0)) (bx BK389.out) hb); have n4_ := ak (blk_below (g := gb390) (o := .cells #[.int .i64 a1_0, .int .u64 a1_1] 50 (0, 0)) (bx BK390.out) hb); have n5_ := ak (blk_below (g := gb396) (o := .cells #[.int .i64 t394, .int .u64 t395] 50 (0, 0)) (bx BK396.out) hb); have n6_ := ak (below_step (by repeat (first | (with_reducible first | exact HB.out | apply below_alloc | apply pw_below_drewN | apply below_drew1 | refine below_set ?_ GE389.out | refine below_set ?_ GE390.out | refine below_set ?_ GE396.out) | exact HB.out)) hb); clear HO430; clear HO438; clear HO442; clear BK389; clear BK390; clear BK396; clear HB; have HO430 := n0_; have HO438 := n1_; have HO442 := n2_; have BK389 := n3_; have BK390 := n4_; have BK396 := n5_; have HB := n6_; clear n0_ n1_ n2_ n3_ n4_ n5_ n6_; (try clear hb); (try clear hb2); (try clear hk); (try clear hi)))
           go_meet
           case rel => exact ⟨_, ((t443 != 0)), (by first | rfl | (simp; done) | (simp [*]; done)), H', ⟨by have := HJ3.out; have := HJ20.out; first | omega | exact Nat.le_refl _⟩, ⟨by exact bx BK389.out⟩, ⟨by exact bx BK390.out⟩, ⟨by exact bx BK396.out⟩, ⟨by repeat (first | (with_reducible first | exact HB.out | apply below_alloc | apply pw_below_drewN | apply below_drew1 | refine below_set ?_ GE389.out | refine below_set ?_ GE390.out | refine below_set ?_ GE396.out) | exact HB.out)⟩⟩
          ·
           rw [if_neg c75] at H
           have c75b0 : (t426 == t432) = false := beq_eq_false_iff_ne.mpr c75
           have c75b1 : (t426 != t432) = true := bne_iff_ne.mpr c75
           have H' := ak H
           clear H
           go_wp2
           go_meet
           case rel => exact ⟨_, (true), (by first | rfl | (simp; done) | (simp [*]; done)), H', ⟨by have := HJ3.out; have := HJ20.out; first | omega | exact Nat.le_refl _⟩, ⟨by exact bx BK389.out⟩, ⟨by exact bx BK390.out⟩, ⟨by exact bx BK396.out⟩, ⟨by repeat (first | (with_reducible first | exact HB.out | apply below_alloc | apply pw_below_drewN | apply below_drew1 | refine below_set ?_ GE389.out | refine below_set ?_ GE390.out | refine below_set ?_ GE396.out) | exact HB.out)⟩⟩
         ·
          rw [if_neg c74] at H
          have c74b0 : (t425 == t431) = false := beq_eq_false_iff_ne.mpr c74
          have c74b1 : (t425 != t431) = true := bne_iff_ne.mpr c74
          (first | rw [c74b0] | (simp only [i64_w, i32_w]; rw [c74b0]) | skip)
          have H' := ak H
          clear H
          go_wp2
          go_meet
          case rel => exact ⟨_, (true), (by first | rfl | (simp; done) | (simp [*]; done)), H', ⟨by have := HJ3.out; have := HJ20.out; first | omega | exact Nat.le_refl _⟩, ⟨by exact bx BK389.out⟩, ⟨by exact bx BK390.out⟩, ⟨by exact bx BK396.out⟩, ⟨by repeat (first | (with_reducible first | exact HB.out | apply below_alloc | apply pw_below_drewN | apply below_drew1 | refine below_set ?_ GE389.out | refine below_set ?_ GE390.out | refine below_set ?_ GE396.out) | exact HB.out)⟩⟩
        case rest =>
         clear HC65
         try clear c1
         try clear c2
         try clear p2
         try clear c4
         try clear c6
         try clear c7
         try clear c16
         try clear c23
         try clear c24
         try clear c25
         try clear c26
         try clear c44
         try clear c44b0
         try clear c44b1
         try clear c61
         try clear c66
         try clear c67
         try clear c74
         try clear c74b0
         try clear c74b1
         try clear c75
         try clear c75b0
         try clear c75b1
         try clear hcz68_0
         try clear hcz68_1
         try clear hcz70_0
         try clear hcz70_1
         try clear hfz68_0
         try clear hfz68_1
         try clear hfz70_0
         try clear hfz70_1
         try clear p2
         obtain ⟨kq, x78_64, rfl, HA, HJ64, BK389, BK390, BK396, HB⟩ := hcut
         cases kq with
         | zero => exact absurd HA.out (by simp [compasslaw01_SafeWides.j2])
         | succ kj64 =>
          have H := HA.out
          clear HA
          simp only [compasslaw01_SafeWides.j2] at H
          by_cases c86 : x78_64 = true
          ·
           subst c86
           have H1 : (some false) = some r := by rw [if_pos rfl] at H; exact H
           clear H
           have H := H1
           clear H1
           exact absurd ((Option.some.inj H).trans HR_.out) (by decide)
          ·
           replace c86 := Bool.eq_false_iff.mpr c86
           subst c86
           have H1 : ((safeint_Plus.f a0_0 a0_1 a1_0 a1_1).bind fun bt444 => ((compasslaw01_wide.f kj64 a0_0 a0_1).bind fun bt448 => ((compasslaw01_wide.f kj64 a1_0 a1_1).bind fun bt452 => ((compassref01_Plus.f kj64 bt448.1 bt448.2 bt452.1 bt452.2).bind fun bt456 => ((compassref01_Fits.f kj64 bt456.1 bt456.2).bind fun t461 => (if t461 = true then (if bt444.2.2 = 0 then ((compasslaw01_wide.f kj64 bt444.1 bt444.2.1).bind fun bt462 => ((compassref01_Compare.f kj64 bt462.1 bt462.2 bt456.1 bt456.2).bind fun t466 => (some (t466 == 0)))) else (some false)) else (if bt444.2.2 = 10 then (some (bt444.1 == 0 && (bt444.2.1 == 0))) else (some false)))))))) = some r := by rw [if_neg (show ¬ (false = true) by decide)] at H; exact H
           clear H
           have H := H1
           clear H1
           replace H := Option.bind_eq_some_iff.mp H
           obtain ⟨⟨t444, t445, t446⟩, A870, H⟩ := H
           replace H : ((compasslaw01_wide.f kj64 a0_0 a0_1).bind fun bt448 => ((compasslaw01_wide.f kj64 a1_0 a1_1).bind fun bt452 => ((compassref01_Plus.f kj64 bt448.1 bt448.2 bt452.1 bt452.2).bind fun bt456 => ((compassref01_Fits.f kj64 bt456.1 bt456.2).bind fun t461 => (if t461 = true then (if t446 = 0 then ((compasslaw01_wide.f kj64 t444 t445).bind fun bt462 => ((compassref01_Compare.f kj64 bt462.1 bt462.2 bt456.1 bt456.2).bind fun t466 => (some (t466 == 0)))) else (some false)) else (if t446 = 10 then (some (t444 == 0 && (t445 == 0))) else (some false))))))) = some r := H
           have A87 := ak A870
           clear A870
           replace H := Option.bind_eq_some_iff.mp H
           obtain ⟨⟨t448, t449⟩, A880, H⟩ := H
           replace H : ((compasslaw01_wide.f kj64 a1_0 a1_1).bind fun bt452 => ((compassref01_Plus.f kj64 t448 t449 bt452.1 bt452.2).bind fun bt456 => ((compassref01_Fits.f kj64 bt456.1 bt456.2).bind fun t461 => (if t461 = true then (if t446 = 0 then ((compasslaw01_wide.f kj64 t444 t445).bind fun bt462 => ((compassref01_Compare.f kj64 bt462.1 bt462.2 bt456.1 bt456.2).bind fun t466 => (some (t466 == 0)))) else (some false)) else (if t446 = 10 then (some (t444 == 0 && (t445 == 0))) else (some false)))))) = some r := H
           have A88 := ak A880
           clear A880
           replace H := Option.bind_eq_some_iff.mp H
           obtain ⟨⟨t452, t453⟩, A890, H⟩ := H
           replace H : ((compassref01_Plus.f kj64 t448 t449 t452 t453).bind fun bt456 => ((compassref01_Fits.f kj64 bt456.1 bt456.2).bind fun t461 => (if t461 = true then (if t446 = 0 then ((compasslaw01_wide.f kj64 t444 t445).bind fun bt462 => ((compassref01_Compare.f kj64 bt462.1 bt462.2 bt456.1 bt456.2).bind fun t466 => (some (t466 == 0)))) else (some false)) else (if t446 = 10 then (some (t444 == 0 && (t445 == 0))) else (some false))))) = some r := H
           have A89 := ak A890
           clear A890
           replace H := Option.bind_eq_some_iff.mp H
           obtain ⟨⟨t456, t457⟩, A900, H⟩ := H
           replace H : ((compassref01_Fits.f kj64 t456 t457).bind fun t461 => (if t461 = true then (if t446 = 0 then ((compasslaw01_wide.f kj64 t444 t445).bind fun bt462 => ((compassref01_Compare.f kj64 bt462.1 bt462.2 t456 t457).bind fun t466 => (some (t466 == 0)))) else (some false)) else (if t446 = 10 then (some (t444 == 0 && (t445 == 0))) else (some false)))) = some r := H
           have A90 := ak A900
           clear A900
           replace H := Option.bind_eq_some_iff.mp H
           obtain ⟨t461, A910, H⟩ := H
           replace H : (if t461 = true then (if t446 = 0 then ((compasslaw01_wide.f kj64 t444 t445).bind fun bt462 => ((compassref01_Compare.f kj64 bt462.1 bt462.2 t456 t457).bind fun t466 => (some (t466 == 0)))) else (some false)) else (if t446 = 10 then (some (t444 == 0 && (t445 == 0))) else (some false))) = some r := H
           have A91 := ak A910
           clear A910
           by_cases c92 : t461 = true
           ·
            subst c92
            have H1 : (if t446 = 0 then ((compasslaw01_wide.f kj64 t444 t445).bind fun bt462 => ((compassref01_Compare.f kj64 bt462.1 bt462.2 t456 t457).bind fun t466 => (some (t466 == 0)))) else (some false)) = some r := by rw [if_pos rfl] at H; exact H
            clear H
            have H := H1
            clear H1
            by_cases c93 : t446 = 0
            ·
             rw [if_pos c93] at H
             have c93b0 : (t446 == 0) = true := beq_iff_eq.mpr c93
             have c93b1 : (t446 != 0) = false := bne_eq_false_iff_eq.mpr c93
             clear c93
             replace H := Option.bind_eq_some_iff.mp H
             obtain ⟨⟨t462, t463⟩, A940, H⟩ := H
             replace H : ((compassref01_Compare.f kj64 t462 t463 t456 t457).bind fun t466 => (some (t466 == 0))) = some r := H
             have A94 := ak A940
             clear A940
             replace H := Option.bind_eq_some_iff.mp H
             obtain ⟨t466, A950, H⟩ := H
             replace H : (some (t466 == 0)) = some r := H
             have A95 := ak A950
             clear A950
             obtain rfl := Option.some.inj H
             have hnb96 := NB389_390.out
             have hnc96 := NB390_389.out
             have hnb97 := NB389_396.out
             have hnc97 := NB396_389.out
             have hcz98_0 : wc.cell? ⟨gb389, 0, none⟩ = some (.int .i64 a0_0) := (blk_cell BK389.out 0).trans rfl
             have hcz98_1 : wc.cell? ⟨gb389, 1, none⟩ = some (.int .u64 a0_1) := (blk_cell BK389.out 1).trans rfl
             have hfz98_0 := blk_frozen BK389.out 0
             have hfz98_1 := blk_frozen BK389.out 1
             have hnb99 := NB390_396.out
             have hnc99 := NB396_390.out
             have hcz100_0 : wc.cell? ⟨gb390, 0, none⟩ = some (.int .i64 a1_0) := (blk_cell BK390.out 0).trans rfl
             have hcz100_1 : wc.cell? ⟨gb390, 1, none⟩ = some (.int .u64 a1_1) := (blk_cell BK390.out 1).trans rfl
             have hfz100_0 := blk_frozen BK390.out 0
             have hfz100_1 := blk_frozen BK390.out 1
             try go_wp2_with (first | ((with_reducible refine gate_callee (f := 28) rfl ?_); refine goesL_ (some 82) rfl rfl Try.func28 (by kernel_rfl) rfl #[.agg #[.int .i64 a0_0, .int .u64 a0_1], .agg #[.int .i64 a1_0, .int .u64 a1_1]] rfl (by (try simp only [List.map_toArray, List.map_cons, List.map_nil]); first | done | rfl | (simp only [List.length_drop, List.length_take]; rfl)) ?_; (with_reducible refine (safeint_Plus.calls a0_0 a0_1 a1_0 a1_1 t444 t445 t446 _ A87.out).mono ?_); rintro e w101 ⟨rfl, hb⟩; refine ⟨_, rfl, ?_⟩; have n0_ := ak (blk_below (g := gb389) (o := .cells #[.int .i64 a0_0, .int .u64 a0_1] 50 (0, 0)) (bx BK389.out) hb); have n1_ := ak (blk_below (g := gb390) (o := .cells #[.int .i64 a1_0, .int .u64 a1_1] 50 (0, 0)) (bx BK390.out) hb); have n2_ := ak (blk_below (g := gb396) (o := .cells #[.int .i64 t394, .int .u64 t395] 50 (0, 0)) (bx BK396.out) hb); have n3_ := ak (below_step (by repeat (first | (with_reducible first | exact HB.out | apply below_alloc | apply pw_below_drewN | apply below_drew1 | refine below_set ?_ GE389.out | refine below_set ?_ GE390.out | refine below_set ?_ GE396.out) | exact HB.out)) hb); clear BK389; clear BK390; clear BK396; clear HB; have BK389 := n0_; have BK390 := n1_; have BK396 := n2_; have HB := n3_; clear n0_ n1_ n2_ n3_; (try clear hb); (try clear hb2); (try clear hk); (try clear hi)) | ((with_reducible refine gate_dst (N := 12) rfl ?_); refine box_event ?hg (N := 12) ?hd (cs := #[.int .i64 0, .int .u64 0]) (t := 50) ?hr ?_; (case hd => rfl); (case hg => rfl); (case hr => first | (go_simp; done) | (go_simp; rfl)); intro gb447 hg w102 hbox hb; have n0_ := ak (blk_below (g := gb389) (o := .cells #[.int .i64 a0_0, .int .u64 a0_1] 50 (0, 0)) (bx BK389.out) hb); have n1_ := ak (blk_below (g := gb390) (o := .cells #[.int .i64 a1_0, .int .u64 a1_1] 50 (0, 0)) (bx BK390.out) hb); have n2_ := ak (blk_below (g := gb396) (o := .cells #[.int .i64 t394, .int .u64 t395] 50 (0, 0)) (bx BK396.out) hb); have n3_ := ak (below_step (by repeat (first | (with_reducible first | exact HB.out | apply below_alloc | apply pw_below_drewN | apply below_drew1 | refine below_set ?_ GE389.out | refine below_set ?_ GE390.out | refine below_set ?_ GE396.out) | exact HB.out)) hb); have n4_ := ak (hbox); have n5_ := ak ((by rw [hg]; exact (below_size (by repeat (first | (with_reducible first | exact HB.out | apply below_alloc | apply pw_below_drewN | apply below_drew1 | refine below_set ?_ GE389.out | refine below_set ?_ GE390.out | refine below_set ?_ GE396.out) | exact HB.out))) : w.heap.size ≤ gb447)); have n6_ := ak ((by rw [hg]; exact (below_size (by repeat (first | (with_reducible first | exact HB.out | apply below_alloc | apply pw_below_drewN | apply below_drew1 | refine below_set ?_ GE389.out | refine below_set ?_ GE390.out | refine below_set ?_ GE396.out) | exact HB.out))) : w.heap.size ≤ gb447)); have n7_ := ak ((by rw [hg]; exact Nat.ne_of_lt (blk_lt (g := gb389) (o := .cells #[.int .i64 a0_0, .int .u64 a0_1] 50 (0, 0)) (bx BK389.out)) : gb389 ≠ gb447)); have n8_ := ak ((by rw [hg]; exact Nat.ne_of_gt (blk_lt (g := gb389) (o := .cells #[.int .i64 a0_0, .int .u64 a0_1] 50 (0, 0)) (bx BK389.out)) : gb447 ≠ gb389)); have n9_ := ak ((by rw [hg]; exact Nat.ne_of_lt (blk_lt (g := gb390) (o := .cells #[.int .i64 a1_0, .int .u64 a1_1] 50 (0, 0)) (bx BK390.out)) : gb390 ≠ gb447)); have n10_ := ak ((by rw [hg]; exact Nat.ne_of_gt (blk_lt (g := gb390) (o := .cells #[.int .i64 a1_0, .int .u64 a1_1] 50 (0, 0)) (bx BK390.out)) : gb447 ≠ gb390)); have n11_ := ak ((by rw [hg]; exact Nat.ne_of_lt (blk_lt (g := gb396) (o := .cells #[.int .i64 t394, .int .u64 t395] 50 (0, 0)) (bx BK396.out)) : gb396 ≠ gb447)); have n12_ := ak ((by rw [hg]; exact Nat.ne_of_gt (blk_lt (g := gb396) (o := .cells #[.int .i64 t394, .int .u64 t395] 50 (0, 0)) (bx BK396.out)) : gb447 ≠ gb396)); clear BK389; clear BK390; clear BK396; clear HB; have BK389 := n0_; have BK390 := n1_; have BK396 := n2_; have HB := n3_; have BK447 := n4_; have GW447 := n5_; have GE447 := n6_; have NB389_447 := n7_; have NB447_389 := n8_; have NB390_447 := n9_; have NB447_390 := n10_; have NB396_447 := n11_; have NB447_396 := n12_; clear n0_ n1_ n2_ n3_ n4_ n5_ n6_ n7_ n8_ n9_ n10_ n11_ n12_; clear hb hbox hg; have hnb103 := NB447_389.out; have hnc103 := NB389_447.out; have hnb104 := NB447_390.out; have hnc104 := NB390_447.out; have hnb105 := NB447_396.out; have hnc105 := NB396_447.out; have hcz106_0 : w102.cell? ⟨gb447, 0, none⟩ = some (.int .i64 0) := (blk_cell BK447.out 0).trans rfl; have hcz106_1 : w102.cell? ⟨gb447, 1, none⟩ = some (.int .u64 0) := (blk_cell BK447.out 1).trans rfl; have hfz106_0 := blk_frozen BK447.out 0; have hfz106_1 := blk_frozen BK447.out 1))
             have n0_ : Aside0 (((w102.setCell ⟨gb447, 0, none⟩ (.int .i64 t444)).setCell ⟨gb447, 1, none⟩ (.int .u64 t445)).heap[gb389]? = some (.cells #[.int .i64 a0_0, .int .u64 a0_1] 50 (0, 0))) := ⟨by (with_reducible repeat (first | refine blk_drewN ?_ _ | refine blk_drew ?_ | refine blk_alloc ?_ _)); refine blk_far ?_ NB389_447.out _; (with_reducible repeat (first | refine blk_drewN ?_ _ | refine blk_drew ?_ | refine blk_alloc ?_ _)); refine blk_far ?_ NB389_447.out _; exact bx BK389.out⟩
             have n1_ : Aside0 (((w102.setCell ⟨gb447, 0, none⟩ (.int .i64 t444)).setCell ⟨gb447, 1, none⟩ (.int .u64 t445)).heap[gb390]? = some (.cells #[.int .i64 a1_0, .int .u64 a1_1] 50 (0, 0))) := ⟨by (with_reducible repeat (first | refine blk_drewN ?_ _ | refine blk_drew ?_ | refine blk_alloc ?_ _)); refine blk_far ?_ NB390_447.out _; (with_reducible repeat (first | refine blk_drewN ?_ _ | refine blk_drew ?_ | refine blk_alloc ?_ _)); refine blk_far ?_ NB390_447.out _; exact bx BK390.out⟩
             have n2_ : Aside0 (((w102.setCell ⟨gb447, 0, none⟩ (.int .i64 t444)).setCell ⟨gb447, 1, none⟩ (.int .u64 t445)).heap[gb396]? = some (.cells #[.int .i64 t394, .int .u64 t395] 50 (0, 0))) := ⟨by (with_reducible repeat (first | refine blk_drewN ?_ _ | refine blk_drew ?_ | refine blk_alloc ?_ _)); refine blk_far ?_ NB396_447.out _; (with_reducible repeat (first | refine blk_drewN ?_ _ | refine blk_drew ?_ | refine blk_alloc ?_ _)); refine blk_far ?_ NB396_447.out _; exact bx BK396.out⟩
             have n3_ : Aside0 (((w102.setCell ⟨gb447, 0, none⟩ (.int .i64 t444)).setCell ⟨gb447, 1, none⟩ (.int .u64 t445)).heap[gb447]? = some (.cells #[.int .i64 t444, .int .u64 t445] 50 (0, 0))) := ⟨by (with_reducible repeat (first | refine blk_drewN ?_ _ | refine blk_drew ?_ | refine blk_alloc ?_ _)); refine blk_put (cs := #[.int .i64 t444, .int .u64 0]) ?_ 1 _ rfl; (with_reducible repeat (first | refine blk_drewN ?_ _ | refine blk_drew ?_ | refine blk_alloc ?_ _)); refine blk_put (cs := #[.int .i64 0, .int .u64 0]) ?_ 0 _ rfl; exact bx BK447.out⟩
             have n4_ : Aside0 (Below w.heap.size w ((w102.setCell ⟨gb447, 0, none⟩ (.int .i64 t444)).setCell ⟨gb447, 1, none⟩ (.int .u64 t445))) := ⟨by repeat (first | (with_reducible first | exact HB.out | apply below_alloc | apply pw_below_drewN | apply below_drew1 | refine below_set ?_ GE389.out | refine below_set ?_ GE390.out | refine below_set ?_ GE396.out | refine below_set ?_ GE447.out) | exact HB.out)⟩
             (try clear BK389)
             (try clear BK390)
             (try clear BK396)
             (try clear BK447)
             (try clear HB)
             generalize ((w102.setCell ⟨gb447, 0, none⟩ (.int .i64 t444)).setCell ⟨gb447, 1, none⟩ (.int .u64 t445)) = w107 at n0_ n1_ n2_ n3_ n4_ ⊢
             have BK389 := n0_
             have BK390 := n1_
             have BK396 := n2_
             have BK447 := n3_
             have HB := n4_
             clear n0_ n1_ n2_ n3_ n4_
             have n0_ := ak (blk_drew BK389.out)
             have n1_ := ak (blk_drew BK390.out)
             have n2_ := ak (blk_drew BK396.out)
             have n3_ := ak (blk_drew BK447.out)
             have n4_ := ak (below_drew1 HB.out)
             clear BK389
             clear BK390
             clear BK396
             clear BK447
             clear HB
             have BK389 := n0_
             have BK390 := n1_
             have BK396 := n2_
             have BK447 := n3_
             have HB := n4_
             clear n0_ n1_ n2_ n3_ n4_
             refine start_ (n := 7) (S := fun w' => w'.cell? ⟨gb389, 0, none⟩ = some (.int .i64 a0_0) ∧ w'.cell? ⟨gb389, 1, none⟩ = some (.int .u64 a0_1) ∧ w'.cell? ⟨gb390, 0, none⟩ = some (.int .i64 a1_0) ∧ w'.cell? ⟨gb390, 1, none⟩ = some (.int .u64 a1_1)) (ds := []) #[false, false, false, false, false, false, false] (by kernel_rfl) rfl rfl ⟨(blk_cell BK389.out 0).trans rfl, (blk_cell BK389.out 1).trans rfl, (blk_cell BK390.out 0).trans rfl, (blk_cell BK390.out 1).trans rfl⟩ (fun hHeld => ?_)
             generalize w107.drew = w108 at BK389 BK390 BK396 BK447 HB hHeld ⊢
             refine take_ (i := 0) (N := some 85) (v := ?_) (a' := ?_) #[true, false, false, false, false, false, false] rfl rfl (by kernel_rfl) (fun _ _ _ h => h) (Or.inl ⟨by rfl, ?_⟩) hHeld ?_ ?_
             rotate_left
             ·
              rintro w' ⟨s0, s1, s2, s3⟩
              go_simp
              with_reducible rfl
             rotate_left
             ·
              simp only [Act.put, List.setIfInBounds_toArray, List.set_cons_zero, List.set_cons_succ, i64_w, i32_w]
              rfl
             refine take_ (i := 2) (N := some 87) (v := ?_) (a' := ?_) #[true, false, true, false, false, false, false] rfl rfl (by kernel_rfl) (fun _ _ _ h => h) (Or.inl ⟨by rfl, ?_⟩) hHeld ?_ ?_
             rotate_left
             ·
              rintro w' ⟨s0, s1, s2, s3⟩
              go_simp
              with_reducible rfl
             rotate_left
             ·
              simp only [Act.put, List.setIfInBounds_toArray, List.set_cons_zero, List.set_cons_succ, i64_w, i32_w]
              rfl
             refine join_ (σ := Value × Value × Value × Nat) 1 #[true, true, true, true, true, true, false] (fun s_ => [(86, .agg #[.bool t448, s_.1]), (88, .agg #[.bool t452, s_.2.1]), (89, .agg #[.bool t456, s_.2.2.1]), (14, .pointer (some ⟨s_.2.2.2, 0, none⟩))]) (fun s_ w' => (w'.cell? ⟨gb389, 0, none⟩ = some (.int .i64 a0_0) ∧ w'.cell? ⟨gb389, 1, none⟩ = some (.int .u64 a0_1) ∧ w'.cell? ⟨gb390, 0, none⟩ = some (.int .i64 a1_0) ∧ w'.cell? ⟨gb390, 1, none⟩ = some (.int .u64 a1_1)) ∧ (Kd.R (Kd.int .u64) 22 w' w.heap.size (fun k_ => some k_ ≠ (s_.2.1 : Value).ownBlock ∧ some k_ ≠ (s_.2.2.1 : Value).ownBlock) s_.1 t449) ∧ (Kd.R (Kd.int .u64) 22 w' w.heap.size (fun k_ => some k_ ≠ (s_.1 : Value).ownBlock ∧ some k_ ≠ (s_.2.2.1 : Value).ownBlock) s_.2.1 t453) ∧ (Kd.R (Kd.int .u64) 22 w' w.heap.size (fun k_ => some k_ ≠ (s_.1 : Value).ownBlock ∧ some k_ ≠ (s_.2.1 : Value).ownBlock) s_.2.2.1 t457) ∧ (w'.heap[gb389]? = some (.cells #[.int .i64 a0_0, .int .u64 a0_1] 50 (0, 0))) ∧ (w'.heap[gb390]? = some (.cells #[.int .i64 a1_0, .int .u64 a1_1] 50 (0, 0))) ∧ (w'.heap[gb396]? = some (.cells #[.int .i64 t394, .int .u64 t395] 50 (0, 0))) ∧ (w'.heap[gb447]? = some (.cells #[.int .i64 t444, .int .u64 t445] 50 (0, 0))) ∧ (w'.heap[s_.2.2.2]? = some (.cells #[.bool false, .slice none 0 0] 31 (0, 0))) ∧ (w.heap.size ≤ s_.2.2.2) ∧ (w.heap.size ≤ s_.2.2.2) ∧ (gb389 ≠ s_.2.2.2) ∧ (s_.2.2.2 ≠ gb389) ∧ (gb390 ≠ s_.2.2.2) ∧ (s_.2.2.2 ≠ gb390) ∧ (gb396 ≠ s_.2.2.2) ∧ (s_.2.2.2 ≠ gb396) ∧ (gb447 ≠ s_.2.2.2) ∧ (s_.2.2.2 ≠ gb447) ∧ (Below w.heap.size w w')) ?_ ?_
             rotate_left
             ·
              intro hCont
              refine two_ (i := 1) (j := 5) (Ni := some 86) (Nj := some 14) #[true, true, true, false, false, false, false] #[true, false, true, false, false, true, false] rfl rfl rfl rfl (by kernel_rfl) (by decide) (by decide) (fun K hK => ?_) (fun K hK => ?_)
              ·
               skip
               refine goes_ Try.func23 (by kernel_rfl) rfl #[.agg #[.int .i64 a0_0, .int .u64 a0_1]] (by rfl) rfl rfl (by (try simp only [List.map_toArray, List.map_cons, List.map_nil]); first | done | rfl | (simp only [List.length_drop, List.length_take]; rfl)) ?_
               with_reducible refine (compasslaw01_wide.calls kj64 a0_0 a0_1 t448 t449 _ A88.out).mono ?_
               rintro e w109 ⟨v450, rfl, ho0, hb⟩
               refine ⟨_, rfl, ?_⟩
               have n0_ := ak (Kd.R_lower ho0 (below_size (by repeat (first | (with_reducible first | exact HB.out | apply below_alloc | apply pw_below_drewN | apply below_drew1 | refine below_set ?_ GE389.out | refine below_set ?_ GE390.out | refine below_set ?_ GE396.out | refine below_set ?_ GE447.out) | exact HB.out))))
               have n1_ := ak (blk_below (g := gb389) (o := .cells #[.int .i64 a0_0, .int .u64 a0_1] 50 (0, 0)) (bx BK389.out) hb)
               have n2_ := ak (blk_below (g := gb390) (o := .cells #[.int .i64 a1_0, .int .u64 a1_1] 50 (0, 0)) (bx BK390.out) hb)
               have n3_ := ak (blk_below (g := gb396) (o := .cells #[.int .i64 t394, .int .u64 t395] 50 (0, 0)) (bx BK396.out) hb)
               have n4_ := ak (blk_below (g := gb447) (o := .cells #[.int .i64 t444, .int .u64 t445] 50 (0, 0)) (bx BK447.out) hb)
               have n5_ := ak (below_step (by repeat (first | (with_reducible first | exact HB.out | apply below_alloc | apply pw_below_drewN | apply below_drew1 | refine below_set ?_ GE389.out | refine below_set ?_ GE390.out | refine below_set ?_ GE396.out | refine below_set ?_ GE447.out) | exact HB.out)) hb)
               clear BK389
               clear BK390
               clear BK396
               clear BK447
               clear HB
               have HO451 := n0_
               have BK389 := n1_
               have BK390 := n2_
               have BK396 := n3_
               have BK447 := n4_
               have HB := n5_
               clear n0_ n1_ n2_ n3_ n4_ n5_
               (try clear hb)
               (try clear hb2)
               (try clear hk)
               (try clear hi)
               (try clear ho0)
               refine hK.out _ _ ⟨(blk_cell BK389.out 0).trans rfl, (blk_cell BK389.out 1).trans rfl, (blk_cell BK390.out 0).trans rfl, (blk_cell BK390.out 1).trans rfl⟩ (fun hHeld => ?_)
               clear hK K
               refine norm_ (a' := ?_) ?_ ?_
               rotate_left
               ·
                show Act.put _ (some 86) _ = _
                simp only [Act.put, List.setIfInBounds_toArray, List.set_cons_zero, List.set_cons_succ, i64_w, i32_w]
                rfl
               refine two_ (i := 3) (j := 5) (Ni := some 88) (Nj := some 14) #[true, true, true, true, false, false, false] #[true, true, true, false, false, true, false] rfl rfl rfl rfl (by kernel_rfl) (by decide) (by decide) (fun K hK => ?_) (fun K hK => ?_)
               ·
                skip
                refine goes_ Try.func23 (by kernel_rfl) rfl #[.agg #[.int .i64 a1_0, .int .u64 a1_1]] (by rfl) rfl rfl (by (try simp only [List.map_toArray, List.map_cons, List.map_nil]); first | done | rfl | (simp only [List.length_drop, List.length_take]; rfl)) ?_
                with_reducible refine (compasslaw01_wide.calls kj64 a1_0 a1_1 t452 t453 _ A89.out).mono ?_
                rintro e w110 ⟨v454, rfl, ho0, hb⟩
                refine ⟨_, rfl, ?_⟩
                have n0_ := ak (Kd.R_elder' (rx HO451.out) (Kd.R_base ho0) hb)
                have n1_ := ak (Kd.R_lower (Kd.R_new' ho0 (Kd.R_lt (rx HO451.out))) (below_size (by repeat (first | (with_reducible first | exact HB.out | apply below_alloc | apply pw_below_drewN | apply below_drew1 | refine below_set ?_ GE389.out | refine below_set ?_ GE390.out | refine below_set ?_ GE396.out | refine below_set ?_ GE447.out) | exact HB.out))))
                have n2_ := ak (blk_below (g := gb389) (o := .cells #[.int .i64 a0_0, .int .u64 a0_1] 50 (0, 0)) (bx BK389.out) hb)
                have n3_ := ak (blk_below (g := gb390) (o := .cells #[.int .i64 a1_0, .int .u64 a1_1] 50 (0, 0)) (bx BK390.out) hb)
                have n4_ := ak (blk_below (g := gb396) (o := .cells #[.int .i64 t394, .int .u64 t395] 50 (0, 0)) (bx BK396.out) hb)
                have n5_ := ak (blk_below (g := gb447) (o := .cells #[.int .i64 t444, .int .u64 t445] 50 (0, 0)) (bx BK447.out) hb)
                have n6_ := ak (below_step (by repeat (first | (with_reducible first | exact HB.out | apply below_alloc | apply pw_below_drewN | apply below_drew1 | refine below_set ?_ GE389.out | refine below_set ?_ GE390.out | refine below_set ?_ GE396.out | refine below_set ?_ GE447.out) | exact HB.out)) hb)
                clear HO451
                clear BK389
                clear BK390
                clear BK396
                clear BK447
                clear HB
                have HO451 := n0_
                have HO455 := n1_
                have BK389 := n2_
                have BK390 := n3_
                have BK396 := n4_
                have BK447 := n5_
                have HB := n6_
                clear n0_ n1_ n2_ n3_ n4_ n5_ n6_
                (try clear hb)
                (try clear hb2)
                (try clear hk)
                (try clear hi)
                (try clear ho0)
                obtain ⟨Ao111, co111, eo111⟩ := Kd.R_slice HO451.out
                (first | subst eo111 | (injection eo111 with f1_ f2_ f3_; have f4_ := f1_.symm; have f5_ := f3_.symm; clear f1_ f2_ f3_; subst f4_; subst f5_))
                obtain ⟨Ao112, co112, eo112⟩ := Kd.R_slice HO455.out
                (first | subst eo112 | (injection eo112 with f1_ f2_ f3_; have f4_ := f1_.symm; have f5_ := f3_.symm; clear f1_ f2_ f3_; subst f4_; subst f5_))
                refine hK.out _ _ ⟨(blk_cell BK389.out 0).trans rfl, (blk_cell BK389.out 1).trans rfl, (blk_cell BK390.out 0).trans rfl, (blk_cell BK390.out 1).trans rfl⟩ (fun hHeld => ?_)
                clear hK K
                refine norm_ (a' := ?_) ?_ ?_
                rotate_left
                ·
                 show Act.put _ (some 88) _ = _
                 simp only [Act.put, List.setIfInBounds_toArray, List.set_cons_zero, List.set_cons_succ, i64_w, i32_w]
                 rfl
                refine two_ (i := 4) (j := 5) (Ni := some 89) (Nj := some 14) #[true, true, true, true, true, false, false] #[true, true, true, true, false, true, false] rfl rfl rfl rfl (by kernel_rfl) (by decide) (by decide) (fun K hK => ?_) (fun K hK => ?_)
                ·
                 skip
                 refine goes_ Try.func13 (by kernel_rfl) rfl #[.agg #[.bool t448, .slice Ao111 t449.length co111], .agg #[.bool t452, .slice Ao112 t453.length co112]] (by rfl) rfl rfl (by (try simp only [List.map_toArray, List.map_cons, List.map_nil]); first | done | rfl | (simp only [List.length_drop, List.length_take]; rfl)) ?_
                 with_reducible refine (compassref01_Plus.calls kj64 t448 _ _ t449 t452 _ _ t453 t456 t457 _ ?side1 ?side2 ?side3 ?side4 A90.out).mono ?_
                 (case side1 => repeat (first | exact (Kd.R_reads' HO451.out).2.2 | (with_reducible refine Kd.C_alloc ?_ _) | (with_reducible refine Kd.C_drewN ?_ _) | (with_reducible refine Kd.C_drew ?_)))
                 (case side2 => exact (Kd.R_reads' HO451.out).2.1)
                 (case side3 => repeat (first | exact (Kd.R_reads' HO455.out).2.2 | (with_reducible refine Kd.C_alloc ?_ _) | (with_reducible refine Kd.C_drewN ?_ _) | (with_reducible refine Kd.C_drew ?_)))
                 (case side4 => exact (Kd.R_reads' HO455.out).2.1)
                 rintro e w113 ⟨v458, rfl, ho0, hb⟩
                 refine ⟨_, rfl, ?_⟩
                 have n0_ := ak (Kd.R_elder' (rx HO451.out) (Kd.R_base ho0) hb)
                 have n1_ := ak (Kd.R_elder' (rx HO455.out) (Kd.R_base ho0) hb)
                 have n2_ := ak (Kd.R_lower (Kd.R_new' (Kd.R_new' ho0 (Kd.R_lt (rx HO451.out))) (Kd.R_lt (rx HO455.out))) (below_size (by repeat (first | (with_reducible first | exact HB.out | apply below_alloc | apply pw_below_drewN | apply below_drew1 | refine below_set ?_ GE389.out | refine below_set ?_ GE390.out | refine below_set ?_ GE396.out | refine below_set ?_ GE447.out) | exact HB.out))))
                 have n3_ := ak (blk_below (g := gb389) (o := .cells #[.int .i64 a0_0, .int .u64 a0_1] 50 (0, 0)) (bx BK389.out) hb)
                 have n4_ := ak (blk_below (g := gb390) (o := .cells #[.int .i64 a1_0, .int .u64 a1_1] 50 (0, 0)) (bx BK390.out) hb)
                 have n5_ := ak (blk_below (g := gb396) (o := .cells #[.int .i64 t394, .int .u64 t395] 50 (0, 0)) (bx BK396.out) hb)
                 have n6_ := ak (blk_below (g := gb447) (o := .cells #[.int .i64 t444, .int .u64 t445] 50 (0, 0)) (bx BK447.out) hb)
                 have n7_ := ak (below_step (by repeat (first | (with_reducible first | exact HB.out | apply below_alloc | apply pw_below_drewN | apply below_drew1 | refine below_set ?_ GE389.out | refine below_set ?_ GE390.out | refine below_set ?_ GE396.out | refine below_set ?_ GE447.out) | exact HB.out)) hb)
                 clear HO451
                 clear HO455
                 clear BK389
                 clear BK390
                 clear BK396
                 clear BK447
                 clear HB
                 have HO451 := n0_
                 have HO455 := n1_
                 have HO459 := n2_
                 have BK389 := n3_
                 have BK390 := n4_
                 have BK396 := n5_
                 have BK447 := n6_
                 have HB := n7_
                 clear n0_ n1_ n2_ n3_ n4_ n5_ n6_ n7_
                 (try clear hb)
                 (try clear hb2)
                 (try clear hk)
                 (try clear hi)
                 (try clear ho0)
                 refine hK.out _ _ ⟨(blk_cell BK389.out 0).trans rfl, (blk_cell BK389.out 1).trans rfl, (blk_cell BK390.out 0).trans rfl, (blk_cell BK390.out 1).trans rfl⟩ (fun hHeld => ?_)
                 clear hK K
                 refine norm_ (a' := ?_) ?_ ?_
                 rotate_left
                 ·
                  show Act.put _ (some 89) _ = _
                  simp only [Act.put, List.setIfInBounds_toArray, List.set_cons_zero, List.set_cons_succ, i64_w, i32_w]
                  rfl
                 refine one_ (i := 5) (N := some 14) #[true, true, true, true, true, true, false] rfl rfl (by kernel_rfl) (by decide) (fun K hK => ?_)
                 refine box_step ?hg (N := 14) ?hd (cs := #[.bool false, .slice none 0 0]) (t := 31) ?hr ?_; (case hd => rfl); (case hg => rfl); (case hr => first | (go_simp; done) | (go_simp; rfl))
                 intro gb460 hg w114 hbox hb
                 have n0_ := ak (Kd.R_below (rx HO451.out) hb)
                 have n1_ := ak (Kd.R_below (rx HO455.out) hb)
                 have n2_ := ak (Kd.R_below (rx HO459.out) hb)
                 have n3_ := ak (blk_below (g := gb389) (o := .cells #[.int .i64 a0_0, .int .u64 a0_1] 50 (0, 0)) (bx BK389.out) hb)
                 have n4_ := ak (blk_below (g := gb390) (o := .cells #[.int .i64 a1_0, .int .u64 a1_1] 50 (0, 0)) (bx BK390.out) hb)
                 have n5_ := ak (blk_below (g := gb396) (o := .cells #[.int .i64 t394, .int .u64 t395] 50 (0, 0)) (bx BK396.out) hb)
                 have n6_ := ak (blk_below (g := gb447) (o := .cells #[.int .i64 t444, .int .u64 t445] 50 (0, 0)) (bx BK447.out) hb)
                 have n7_ := ak (below_step (by repeat (first | (with_reducible first | exact HB.out | apply below_alloc | apply pw_below_drewN | apply below_drew1 | refine below_set ?_ GE389.out | refine below_set ?_ GE390.out | refine below_set ?_ GE396.out | refine below_set ?_ GE447.out) | exact HB.out)) hb)
                 have n8_ := ak (hbox)
                 have n9_ := ak ((by rw [hg]; exact (below_size (by repeat (first | (with_reducible first | exact HB.out | apply below_alloc | apply pw_below_drewN | apply below_drew1 | refine below_set ?_ GE389.out | refine below_set ?_ GE390.out | refine below_set ?_ GE396.out | refine below_set ?_ GE447.out) | exact HB.out))) : w.heap.size ≤ gb460))
                 have n10_ := ak ((by rw [hg]; exact (below_size (by repeat (first | (with_reducible first | exact HB.out | apply below_alloc | apply pw_below_drewN | apply below_drew1 | refine below_set ?_ GE389.out | refine below_set ?_ GE390.out | refine below_set ?_ GE396.out | refine below_set ?_ GE447.out) | exact HB.out))) : w.heap.size ≤ gb460))
                 have n11_ := ak ((by rw [hg]; exact Nat.ne_of_lt (blk_lt (g := gb389) (o := .cells #[.int .i64 a0_0, .int .u64 a0_1] 50 (0, 0)) (bx BK389.out)) : gb389 ≠ gb460))
                 have n12_ := ak ((by rw [hg]; exact Nat.ne_of_gt (blk_lt (g := gb389) (o := .cells #[.int .i64 a0_0, .int .u64 a0_1] 50 (0, 0)) (bx BK389.out)) : gb460 ≠ gb389))
                 have n13_ := ak ((by rw [hg]; exact Nat.ne_of_lt (blk_lt (g := gb390) (o := .cells #[.int .i64 a1_0, .int .u64 a1_1] 50 (0, 0)) (bx BK390.out)) : gb390 ≠ gb460))
                 have n14_ := ak ((by rw [hg]; exact Nat.ne_of_gt (blk_lt (g := gb390) (o := .cells #[.int .i64 a1_0, .int .u64 a1_1] 50 (0, 0)) (bx BK390.out)) : gb460 ≠ gb390))
                 have n15_ := ak ((by rw [hg]; exact Nat.ne_of_lt (blk_lt (g := gb396) (o := .cells #[.int .i64 t394, .int .u64 t395] 50 (0, 0)) (bx BK396.out)) : gb396 ≠ gb460))
                 have n16_ := ak ((by rw [hg]; exact Nat.ne_of_gt (blk_lt (g := gb396) (o := .cells #[.int .i64 t394, .int .u64 t395] 50 (0, 0)) (bx BK396.out)) : gb460 ≠ gb396))
                 have n17_ := ak ((by rw [hg]; exact Nat.ne_of_lt (blk_lt (g := gb447) (o := .cells #[.int .i64 t444, .int .u64 t445] 50 (0, 0)) (bx BK447.out)) : gb447 ≠ gb460))
                 have n18_ := ak ((by rw [hg]; exact Nat.ne_of_gt (blk_lt (g := gb447) (o := .cells #[.int .i64 t444, .int .u64 t445] 50 (0, 0)) (bx BK447.out)) : gb460 ≠ gb447))
                 clear HO451
                 clear HO455
                 clear HO459
                 clear BK389
                 clear BK390
                 clear BK396
                 clear BK447
                 clear HB
                 have HO451 := n0_
                 have HO455 := n1_
                 have HO459 := n2_
                 have BK389 := n3_
                 have BK390 := n4_
                 have BK396 := n5_
                 have BK447 := n6_
                 have HB := n7_
                 have BK460 := n8_
                 have GW460 := n9_
                 have GE460 := n10_
                 have NB389_460 := n11_
                 have NB460_389 := n12_
                 have NB390_460 := n13_
                 have NB460_390 := n14_
                 have NB396_460 := n15_
                 have NB460_396 := n16_
                 have NB447_460 := n17_
                 have NB460_447 := n18_
                 clear n0_ n1_ n2_ n3_ n4_ n5_ n6_ n7_ n8_ n9_ n10_ n11_ n12_ n13_ n14_ n15_ n16_ n17_ n18_
                 clear hb hbox hg
                 refine hK.out _ _ ⟨(blk_cell BK389.out 0).trans rfl, (blk_cell BK389.out 1).trans rfl, (blk_cell BK390.out 0).trans rfl, (blk_cell BK390.out 1).trans rfl⟩ (fun hHeld => ?_)
                 clear hK K
                 refine norm_ (a' := ?_) ?_ ?_
                 rotate_left
                 ·
                  show Act.put _ (some 14) _ = _
                  simp only [Act.put, List.setIfInBounds_toArray, List.set_cons_zero, List.set_cons_succ, i64_w, i32_w]
                  rfl
                 exact norm_ (by simp only [putAll, Act.put, List.setIfInBounds_toArray, List.set_cons_zero, List.set_cons_succ]) (hCont (.slice Ao111 t449.length co111, .slice Ao112 t453.length co112, v458, gb460) _ ⟨hHeld, (by (with_reducible repeat (first | apply Kd.R_alloc | apply Kd.R_drewN | apply Kd.R_drew)); exact Kd.R_mono HO451.out (fun _ hk => ⟨hk.1.2, hk.2⟩)), (by (with_reducible repeat (first | apply Kd.R_alloc | apply Kd.R_drewN | apply Kd.R_drew)); exact Kd.R_mono HO455.out (fun _ hk => ⟨hk.1.2, hk.2⟩)), (by (with_reducible repeat (first | apply Kd.R_alloc | apply Kd.R_drewN | apply Kd.R_drew)); exact Kd.R_mono HO459.out (fun _ hk => ⟨hk.1.2, hk.2⟩)), (bx BK389.out), (bx BK390.out), (bx BK396.out), (bx BK447.out), (bx BK460.out), GW460.out, GE460.out, NB389_460.out, NB460_389.out, NB390_460.out, NB460_390.out, NB396_460.out, NB460_396.out, NB447_460.out, NB460_447.out, (by repeat (first | (with_reducible first | exact HB.out | apply below_alloc | apply pw_below_drewN | apply below_drew1 | refine below_set ?_ GE389.out | refine below_set ?_ GE390.out | refine below_set ?_ GE396.out | refine below_set ?_ GE447.out | refine below_set ?_ GE460.out) | exact HB.out))⟩)
                ·
                 skip
                 refine box_step ?hg (N := 14) ?hd (cs := #[.bool false, .slice none 0 0]) (t := 31) ?hr ?_; (case hd => rfl); (case hg => rfl); (case hr => first | (go_simp; done) | (go_simp; rfl))
                 intro gb460 hg w111 hbox hb
                 have n0_ := ak (Kd.R_below (rx HO451.out) hb)
                 have n1_ := ak (Kd.R_below (rx HO455.out) hb)
                 have n2_ := ak (blk_below (g := gb389) (o := .cells #[.int .i64 a0_0, .int .u64 a0_1] 50 (0, 0)) (bx BK389.out) hb)
                 have n3_ := ak (blk_below (g := gb390) (o := .cells #[.int .i64 a1_0, .int .u64 a1_1] 50 (0, 0)) (bx BK390.out) hb)
                 have n4_ := ak (blk_below (g := gb396) (o := .cells #[.int .i64 t394, .int .u64 t395] 50 (0, 0)) (bx BK396.out) hb)
                 have n5_ := ak (blk_below (g := gb447) (o := .cells #[.int .i64 t444, .int .u64 t445] 50 (0, 0)) (bx BK447.out) hb)
                 have n6_ := ak (below_step (by repeat (first | (with_reducible first | exact HB.out | apply below_alloc | apply pw_below_drewN | apply below_drew1 | refine below_set ?_ GE389.out | refine below_set ?_ GE390.out | refine below_set ?_ GE396.out | refine below_set ?_ GE447.out) | exact HB.out)) hb)
                 have n7_ := ak (hbox)
                 have n8_ := ak ((by rw [hg]; exact (below_size (by repeat (first | (with_reducible first | exact HB.out | apply below_alloc | apply pw_below_drewN | apply below_drew1 | refine below_set ?_ GE389.out | refine below_set ?_ GE390.out | refine below_set ?_ GE396.out | refine below_set ?_ GE447.out) | exact HB.out))) : w.heap.size ≤ gb460))
                 have n9_ := ak ((by rw [hg]; exact (below_size (by repeat (first | (with_reducible first | exact HB.out | apply below_alloc | apply pw_below_drewN | apply below_drew1 | refine below_set ?_ GE389.out | refine below_set ?_ GE390.out | refine below_set ?_ GE396.out | refine below_set ?_ GE447.out) | exact HB.out))) : w.heap.size ≤ gb460))
                 have n10_ := ak ((by rw [hg]; exact Nat.ne_of_lt (blk_lt (g := gb389) (o := .cells #[.int .i64 a0_0, .int .u64 a0_1] 50 (0, 0)) (bx BK389.out)) : gb389 ≠ gb460))
                 have n11_ := ak ((by rw [hg]; exact Nat.ne_of_gt (blk_lt (g := gb389) (o := .cells #[.int .i64 a0_0, .int .u64 a0_1] 50 (0, 0)) (bx BK389.out)) : gb460 ≠ gb389))
                 have n12_ := ak ((by rw [hg]; exact Nat.ne_of_lt (blk_lt (g := gb390) (o := .cells #[.int .i64 a1_0, .int .u64 a1_1] 50 (0, 0)) (bx BK390.out)) : gb390 ≠ gb460))
                 have n13_ := ak ((by rw [hg]; exact Nat.ne_of_gt (blk_lt (g := gb390) (o := .cells #[.int .i64 a1_0, .int .u64 a1_1] 50 (0, 0)) (bx BK390.out)) : gb460 ≠ gb390))
                 have n14_ := ak ((by rw [hg]; exact Nat.ne_of_lt (blk_lt (g := gb396) (o := .cells #[.int .i64 t394, .int .u64 t395] 50 (0, 0)) (bx BK396.out)) : gb396 ≠ gb460))
                 have n15_ := ak ((by rw [hg]; exact Nat.ne_of_gt (blk_lt (g := gb396) (o := .cells #[.int .i64 t394, .int .u64 t395] 50 (0, 0)) (bx BK396.out)) : gb460 ≠ gb396))
                 have n16_ := ak ((by rw [hg]; exact Nat.ne_of_lt (blk_lt (g := gb447) (o := .cells #[.int .i64 t444, .int .u64 t445] 50 (0, 0)) (bx BK447.out)) : gb447 ≠ gb460))
                 have n17_ := ak ((by rw [hg]; exact Nat.ne_of_gt (blk_lt (g := gb447) (o := .cells #[.int .i64 t444, .int .u64 t445] 50 (0, 0)) (bx BK447.out)) : gb460 ≠ gb447))
                 clear HO451
                 clear HO455
                 clear BK389
                 clear BK390
                 clear BK396
                 clear BK447
                 clear HB
                 have HO451 := n0_
                 have HO455 := n1_
                 have BK389 := n2_
                 have BK390 := n3_
                 have BK396 := n4_
                 have BK447 := n5_
                 have HB := n6_
                 have BK460 := n7_
                 have GW460 := n8_
                 have GE460 := n9_
                 have NB389_460 := n10_
                 have NB460_389 := n11_
                 have NB390_460 := n12_
                 have NB460_390 := n13_
                 have NB396_460 := n14_
                 have NB460_396 := n15_
                 have NB447_460 := n16_
                 have NB460_447 := n17_
                 clear n0_ n1_ n2_ n3_ n4_ n5_ n6_ n7_ n8_ n9_ n10_ n11_ n12_ n13_ n14_ n15_ n16_ n17_
                 clear hb hbox hg
                 obtain ⟨Ao112, co112, eo112⟩ := Kd.R_slice HO451.out
                 (first | subst eo112 | (injection eo112 with f1_ f2_ f3_; have f4_ := f1_.symm; have f5_ := f3_.symm; clear f1_ f2_ f3_; subst f4_; subst f5_))
                 obtain ⟨Ao113, co113, eo113⟩ := Kd.R_slice HO455.out
                 (first | subst eo113 | (injection eo113 with f1_ f2_ f3_; have f4_ := f1_.symm; have f5_ := f3_.symm; clear f1_ f2_ f3_; subst f4_; subst f5_))
                 refine hK.out _ _ ⟨(blk_cell BK389.out 0).trans rfl, (blk_cell BK389.out 1).trans rfl, (blk_cell BK390.out 0).trans rfl, (blk_cell BK390.out 1).trans rfl⟩ (fun hHeld => ?_)
                 clear hK K
                 refine norm_ (a' := ?_) ?_ ?_
                 rotate_left
                 ·
                  show Act.put _ (some 14) _ = _
                  simp only [Act.put, List.setIfInBounds_toArray, List.set_cons_zero, List.set_cons_succ, i64_w, i32_w]
                  rfl
                 refine one_ (i := 4) (N := some 89) #[true, true, true, true, true, true, false] rfl rfl (by kernel_rfl) (by decide) (fun K hK => ?_)
                 refine goes_ Try.func13 (by kernel_rfl) rfl #[.agg #[.bool t448, .slice Ao112 t449.length co112], .agg #[.bool t452, .slice Ao113 t453.length co113]] (by rfl) rfl rfl (by (try simp only [List.map_toArray, List.map_cons, List.map_nil]); first | done | rfl | (simp only [List.length_drop, List.length_take]; rfl)) ?_
                 with_reducible refine (compassref01_Plus.calls kj64 t448 _ _ t449 t452 _ _ t453 t456 t457 _ ?side1 ?side2 ?side3 ?side4 A90.out).mono ?_
                 (case side1 => repeat (first | exact (Kd.R_reads' HO451.out).2.2 | (with_reducible refine Kd.C_alloc ?_ _) | (with_reducible refine Kd.C_drewN ?_ _) | (with_reducible refine Kd.C_drew ?_)))
                 (case side2 => exact (Kd.R_reads' HO451.out).2.1)
                 (case side3 => repeat (first | exact (Kd.R_reads' HO455.out).2.2 | (with_reducible refine Kd.C_alloc ?_ _) | (with_reducible refine Kd.C_drewN ?_ _) | (with_reducible refine Kd.C_drew ?_)))
                 (case side4 => exact (Kd.R_reads' HO455.out).2.1)
                 rintro e w114 ⟨v458, rfl, ho0, hb⟩
                 refine ⟨_, rfl, ?_⟩
                 have n0_ := ak (Kd.R_elder' (rx HO451.out) (Kd.R_base ho0) hb)
                 have n1_ := ak (Kd.R_elder' (rx HO455.out) (Kd.R_base ho0) hb)
                 have n2_ := ak (Kd.R_lower (Kd.R_new' (Kd.R_new' ho0 (Kd.R_lt (rx HO451.out))) (Kd.R_lt (rx HO455.out))) (below_size (by repeat (first | (with_reducible first | exact HB.out | apply below_alloc | apply pw_below_drewN | apply below_drew1 | refine below_set ?_ GE389.out | refine below_set ?_ GE390.out | refine below_set ?_ GE396.out | refine below_set ?_ GE447.out | refine below_set ?_ GE460.out) | exact HB.out))))
                 have n3_ := ak (blk_below (g := gb389) (o := .cells #[.int .i64 a0_0, .int .u64 a0_1] 50 (0, 0)) (bx BK389.out) hb)
                 have n4_ := ak (blk_below (g := gb390) (o := .cells #[.int .i64 a1_0, .int .u64 a1_1] 50 (0, 0)) (bx BK390.out) hb)
                 have n5_ := ak (blk_below (g := gb396) (o := .cells #[.int .i64 t394, .int .u64 t395] 50 (0, 0)) (bx BK396.out) hb)
                 have n6_ := ak (blk_below (g := gb447) (o := .cells #[.int .i64 t444, .int .u64 t445] 50 (0, 0)) (bx BK447.out) hb)
                 have n7_ := ak (blk_below (g := gb460) (o := .cells #[.bool false, .slice none 0 0] 31 (0, 0)) (bx BK460.out) hb)
                 have n8_ := ak (below_step (by repeat (first | (with_reducible first | exact HB.out | apply below_alloc | apply pw_below_drewN | apply below_drew1 | refine below_set ?_ GE389.out | refine below_set ?_ GE390.out | refine below_set ?_ GE396.out | refine below_set ?_ GE447.out | refine below_set ?_ GE460.out) | exact HB.out)) hb)
                 clear HO451
                 clear HO455
                 clear BK389
                 clear BK390
                 clear BK396
                 clear BK447
                 clear BK460
                 clear HB
                 have HO451 := n0_
                 have HO455 := n1_
                 have HO459 := n2_
                 have BK389 := n3_
                 have BK390 := n4_
                 have BK396 := n5_
                 have BK447 := n6_
                 have BK460 := n7_
                 have HB := n8_
                 clear n0_ n1_ n2_ n3_ n4_ n5_ n6_ n7_ n8_
                 (try clear hb)
                 (try clear hb2)
                 (try clear hk)
                 (try clear hi)
                 (try clear ho0)
                 refine hK.out _ _ ⟨(blk_cell BK389.out 0).trans rfl, (blk_cell BK389.out 1).trans rfl, (blk_cell BK390.out 0).trans rfl, (blk_cell BK390.out 1).trans rfl⟩ (fun hHeld => ?_)
                 clear hK K
                 refine norm_ (a' := ?_) ?_ ?_
                 rotate_left
                 ·
                  show Act.put _ (some 89) _ = _
                  simp only [Act.put, List.setIfInBounds_toArray, List.set_cons_zero, List.set_cons_succ, i64_w, i32_w]
                  rfl
                 exact norm_ (by simp only [putAll, Act.put, List.setIfInBounds_toArray, List.set_cons_zero, List.set_cons_succ]) (hCont (.slice Ao112 t449.length co112, .slice Ao113 t453.length co113, v458, gb460) _ ⟨hHeld, (by (with_reducible repeat (first | apply Kd.R_alloc | apply Kd.R_drewN | apply Kd.R_drew)); exact Kd.R_mono HO451.out (fun _ hk => ⟨hk.1.2, hk.2⟩)), (by (with_reducible repeat (first | apply Kd.R_alloc | apply Kd.R_drewN | apply Kd.R_drew)); exact Kd.R_mono HO455.out (fun _ hk => ⟨hk.1.2, hk.2⟩)), (by (with_reducible repeat (first | apply Kd.R_alloc | apply Kd.R_drewN | apply Kd.R_drew)); exact Kd.R_mono HO459.out (fun _ hk => ⟨hk.1.2, hk.2⟩)), (bx BK389.out), (bx BK390.out), (bx BK396.out), (bx BK447.out), (bx BK460.out), GW460.out, GE460.out, NB389_460.out, NB460_389.out, NB390_460.out, NB460_390.out, NB396_460.out, NB460_396.out, NB447_460.out, NB460_447.out, (by repeat (first | (with_reducible first | exact HB.out | apply below_alloc | apply pw_below_drewN | apply below_drew1 | refine below_set ?_ GE389.out | refine below_set ?_ GE390.out | refine below_set ?_ GE396.out | refine below_set ?_ GE447.out | refine below_set ?_ GE460.out) | exact HB.out))⟩)
               ·
                skip
                refine box_step ?hg (N := 14) ?hd (cs := #[.bool false, .slice none 0 0]) (t := 31) ?hr ?_; (case hd => rfl); (case hg => rfl); (case hr => first | (go_simp; done) | (go_simp; rfl))
                intro gb460 hg w110 hbox hb
                have n0_ := ak (Kd.R_below (rx HO451.out) hb)
                have n1_ := ak (blk_below (g := gb389) (o := .cells #[.int .i64 a0_0, .int .u64 a0_1] 50 (0, 0)) (bx BK389.out) hb)
                have n2_ := ak (blk_below (g := gb390) (o := .cells #[.int .i64 a1_0, .int .u64 a1_1] 50 (0, 0)) (bx BK390.out) hb)
                have n3_ := ak (blk_below (g := gb396) (o := .cells #[.int .i64 t394, .int .u64 t395] 50 (0, 0)) (bx BK396.out) hb)
                have n4_ := ak (blk_below (g := gb447) (o := .cells #[.int .i64 t444, .int .u64 t445] 50 (0, 0)) (bx BK447.out) hb)
                have n5_ := ak (below_step (by repeat (first | (with_reducible first | exact HB.out | apply below_alloc | apply pw_below_drewN | apply below_drew1 | refine below_set ?_ GE389.out | refine below_set ?_ GE390.out | refine below_set ?_ GE396.out | refine below_set ?_ GE447.out) | exact HB.out)) hb)
                have n6_ := ak (hbox)
                have n7_ := ak ((by rw [hg]; exact (below_size (by repeat (first | (with_reducible first | exact HB.out | apply below_alloc | apply pw_below_drewN | apply below_drew1 | refine below_set ?_ GE389.out | refine below_set ?_ GE390.out | refine below_set ?_ GE396.out | refine below_set ?_ GE447.out) | exact HB.out))) : w.heap.size ≤ gb460))
                have n8_ := ak ((by rw [hg]; exact (below_size (by repeat (first | (with_reducible first | exact HB.out | apply below_alloc | apply pw_below_drewN | apply below_drew1 | refine below_set ?_ GE389.out | refine below_set ?_ GE390.out | refine below_set ?_ GE396.out | refine below_set ?_ GE447.out) | exact HB.out))) : w.heap.size ≤ gb460))
                have n9_ := ak ((by rw [hg]; exact Nat.ne_of_lt (blk_lt (g := gb389) (o := .cells #[.int .i64 a0_0, .int .u64 a0_1] 50 (0, 0)) (bx BK389.out)) : gb389 ≠ gb460))
                have n10_ := ak ((by rw [hg]; exact Nat.ne_of_gt (blk_lt (g := gb389) (o := .cells #[.int .i64 a0_0, .int .u64 a0_1] 50 (0, 0)) (bx BK389.out)) : gb460 ≠ gb389))
                have n11_ := ak ((by rw [hg]; exact Nat.ne_of_lt (blk_lt (g := gb390) (o := .cells #[.int .i64 a1_0, .int .u64 a1_1] 50 (0, 0)) (bx BK390.out)) : gb390 ≠ gb460))
                have n12_ := ak ((by rw [hg]; exact Nat.ne_of_gt (blk_lt (g := gb390) (o := .cells #[.int .i64 a1_0, .int .u64 a1_1] 50 (0, 0)) (bx BK390.out)) : gb460 ≠ gb390))
                have n13_ := ak ((by rw [hg]; exact Nat.ne_of_lt (blk_lt (g := gb396) (o := .cells #[.int .i64 t394, .int .u64 t395] 50 (0, 0)) (bx BK396.out)) : gb396 ≠ gb460))
                have n14_ := ak ((by rw [hg]; exact Nat.ne_of_gt (blk_lt (g := gb396) (o := .cells #[.int .i64 t394, .int .u64 t395] 50 (0, 0)) (bx BK396.out)) : gb460 ≠ gb396))
                have n15_ := ak ((by rw [hg]; exact Nat.ne_of_lt (blk_lt (g := gb447) (o := .cells #[.int .i64 t444, .int .u64 t445] 50 (0, 0)) (bx BK447.out)) : gb447 ≠ gb460))
                have n16_ := ak ((by rw [hg]; exact Nat.ne_of_gt (blk_lt (g := gb447) (o := .cells #[.int .i64 t444, .int .u64 t445] 50 (0, 0)) (bx BK447.out)) : gb460 ≠ gb447))
                clear HO451
                clear BK389
                clear BK390
                clear BK396
                clear BK447
                clear HB
                have HO451 := n0_
                have BK389 := n1_
                have BK390 := n2_
                have BK396 := n3_
                have BK447 := n4_
                have HB := n5_
                have BK460 := n6_
                have GW460 := n7_
                have GE460 := n8_
                have NB389_460 := n9_
                have NB460_389 := n10_
                have NB390_460 := n11_
                have NB460_390 := n12_
                have NB396_460 := n13_
                have NB460_396 := n14_
                have NB447_460 := n15_
                have NB460_447 := n16_
                clear n0_ n1_ n2_ n3_ n4_ n5_ n6_ n7_ n8_ n9_ n10_ n11_ n12_ n13_ n14_ n15_ n16_
                clear hb hbox hg
                refine hK.out _ _ ⟨(blk_cell BK389.out 0).trans rfl, (blk_cell BK389.out 1).trans rfl, (blk_cell BK390.out 0).trans rfl, (blk_cell BK390.out 1).trans rfl⟩ (fun hHeld => ?_)
                clear hK K
                refine norm_ (a' := ?_) ?_ ?_
                rotate_left
                ·
                 show Act.put _ (some 14) _ = _
                 simp only [Act.put, List.setIfInBounds_toArray, List.set_cons_zero, List.set_cons_succ, i64_w, i32_w]
                 rfl
                refine one_ (i := 3) (N := some 88) #[true, true, true, true, false, true, false] rfl rfl (by kernel_rfl) (by decide) (fun K hK => ?_)
                refine goes_ Try.func23 (by kernel_rfl) rfl #[.agg #[.int .i64 a1_0, .int .u64 a1_1]] (by rfl) rfl rfl (by (try simp only [List.map_toArray, List.map_cons, List.map_nil]); first | done | rfl | (simp only [List.length_drop, List.length_take]; rfl)) ?_
                with_reducible refine (compasslaw01_wide.calls kj64 a1_0 a1_1 t452 t453 _ A89.out).mono ?_
                rintro e w111 ⟨v454, rfl, ho0, hb⟩
                refine ⟨_, rfl, ?_⟩
                have n0_ := ak (Kd.R_elder' (rx HO451.out) (Kd.R_base ho0) hb)
                have n1_ := ak (Kd.R_lower (Kd.R_new' ho0 (Kd.R_lt (rx HO451.out))) (below_size (by repeat (first | (with_reducible first | exact HB.out | apply below_alloc | apply pw_below_drewN | apply below_drew1 | refine below_set ?_ GE389.out | refine below_set ?_ GE390.out | refine below_set ?_ GE396.out | refine below_set ?_ GE447.out | refine below_set ?_ GE460.out) | exact HB.out))))
                have n2_ := ak (blk_below (g := gb389) (o := .cells #[.int .i64 a0_0, .int .u64 a0_1] 50 (0, 0)) (bx BK389.out) hb)
                have n3_ := ak (blk_below (g := gb390) (o := .cells #[.int .i64 a1_0, .int .u64 a1_1] 50 (0, 0)) (bx BK390.out) hb)
                have n4_ := ak (blk_below (g := gb396) (o := .cells #[.int .i64 t394, .int .u64 t395] 50 (0, 0)) (bx BK396.out) hb)
                have n5_ := ak (blk_below (g := gb447) (o := .cells #[.int .i64 t444, .int .u64 t445] 50 (0, 0)) (bx BK447.out) hb)
                have n6_ := ak (blk_below (g := gb460) (o := .cells #[.bool false, .slice none 0 0] 31 (0, 0)) (bx BK460.out) hb)
                have n7_ := ak (below_step (by repeat (first | (with_reducible first | exact HB.out | apply below_alloc | apply pw_below_drewN | apply below_drew1 | refine below_set ?_ GE389.out | refine below_set ?_ GE390.out | refine below_set ?_ GE396.out | refine below_set ?_ GE447.out | refine below_set ?_ GE460.out) | exact HB.out)) hb)
                clear HO451
                clear BK389
                clear BK390
                clear BK396
                clear BK447
                clear BK460
                clear HB
                have HO451 := n0_
                have HO455 := n1_
                have BK389 := n2_
                have BK390 := n3_
                have BK396 := n4_
                have BK447 := n5_
                have BK460 := n6_
                have HB := n7_
                clear n0_ n1_ n2_ n3_ n4_ n5_ n6_ n7_
                (try clear hb)
                (try clear hb2)
                (try clear hk)
                (try clear hi)
                (try clear ho0)
                obtain ⟨Ao112, co112, eo112⟩ := Kd.R_slice HO451.out
                (first | subst eo112 | (injection eo112 with f1_ f2_ f3_; have f4_ := f1_.symm; have f5_ := f3_.symm; clear f1_ f2_ f3_; subst f4_; subst f5_))
                obtain ⟨Ao113, co113, eo113⟩ := Kd.R_slice HO455.out
                (first | subst eo113 | (injection eo113 with f1_ f2_ f3_; have f4_ := f1_.symm; have f5_ := f3_.symm; clear f1_ f2_ f3_; subst f4_; subst f5_))
                refine hK.out _ _ ⟨(blk_cell BK389.out 0).trans rfl, (blk_cell BK389.out 1).trans rfl, (blk_cell BK390.out 0).trans rfl, (blk_cell BK390.out 1).trans rfl⟩ (fun hHeld => ?_)
                clear hK K
                refine norm_ (a' := ?_) ?_ ?_
                rotate_left
                ·
                 show Act.put _ (some 88) _ = _
                 simp only [Act.put, List.setIfInBounds_toArray, List.set_cons_zero, List.set_cons_succ, i64_w, i32_w]
                 rfl
                refine one_ (i := 4) (N := some 89) #[true, true, true, true, true, true, false] rfl rfl (by kernel_rfl) (by decide) (fun K hK => ?_)
                refine goes_ Try.func13 (by kernel_rfl) rfl #[.agg #[.bool t448, .slice Ao112 t449.length co112], .agg #[.bool t452, .slice Ao113 t453.length co113]] (by rfl) rfl rfl (by (try simp only [List.map_toArray, List.map_cons, List.map_nil]); first | done | rfl | (simp only [List.length_drop, List.length_take]; rfl)) ?_
                with_reducible refine (compassref01_Plus.calls kj64 t448 _ _ t449 t452 _ _ t453 t456 t457 _ ?side1 ?side2 ?side3 ?side4 A90.out).mono ?_
                (case side1 => repeat (first | exact (Kd.R_reads' HO451.out).2.2 | (with_reducible refine Kd.C_alloc ?_ _) | (with_reducible refine Kd.C_drewN ?_ _) | (with_reducible refine Kd.C_drew ?_)))
                (case side2 => exact (Kd.R_reads' HO451.out).2.1)
                (case side3 => repeat (first | exact (Kd.R_reads' HO455.out).2.2 | (with_reducible refine Kd.C_alloc ?_ _) | (with_reducible refine Kd.C_drewN ?_ _) | (with_reducible refine Kd.C_drew ?_)))
                (case side4 => exact (Kd.R_reads' HO455.out).2.1)
                rintro e w114 ⟨v458, rfl, ho0, hb⟩
                refine ⟨_, rfl, ?_⟩
                have n0_ := ak (Kd.R_elder' (rx HO451.out) (Kd.R_base ho0) hb)
                have n1_ := ak (Kd.R_elder' (rx HO455.out) (Kd.R_base ho0) hb)
                have n2_ := ak (Kd.R_lower (Kd.R_new' (Kd.R_new' ho0 (Kd.R_lt (rx HO451.out))) (Kd.R_lt (rx HO455.out))) (below_size (by repeat (first | (with_reducible first | exact HB.out | apply below_alloc | apply pw_below_drewN | apply below_drew1 | refine below_set ?_ GE389.out | refine below_set ?_ GE390.out | refine below_set ?_ GE396.out | refine below_set ?_ GE447.out | refine below_set ?_ GE460.out) | exact HB.out))))
                have n3_ := ak (blk_below (g := gb389) (o := .cells #[.int .i64 a0_0, .int .u64 a0_1] 50 (0, 0)) (bx BK389.out) hb)
                have n4_ := ak (blk_below (g := gb390) (o := .cells #[.int .i64 a1_0, .int .u64 a1_1] 50 (0, 0)) (bx BK390.out) hb)
                have n5_ := ak (blk_below (g := gb396) (o := .cells #[.int .i64 t394, .int .u64 t395] 50 (0, 0)) (bx BK396.out) hb)
                have n6_ := ak (blk_below (g := gb447) (o := .cells #[.int .i64 t444, .int .u64 t445] 50 (0, 0)) (bx BK447.out) hb)
                have n7_ := ak (blk_below (g := gb460) (o := .cells #[.bool false, .slice none 0 0] 31 (0, 0)) (bx BK460.out) hb)
                have n8_ := ak (below_step (by repeat (first | (with_reducible first | exact HB.out | apply below_alloc | apply pw_below_drewN | apply below_drew1 | refine below_set ?_ GE389.out | refine below_set ?_ GE390.out | refine below_set ?_ GE396.out | refine below_set ?_ GE447.out | refine below_set ?_ GE460.out) | exact HB.out)) hb)
                clear HO451
                clear HO455
                clear BK389
                clear BK390
                clear BK396
                clear BK447
                clear BK460
                clear HB
                have HO451 := n0_
                have HO455 := n1_
                have HO459 := n2_
                have BK389 := n3_
                have BK390 := n4_
                have BK396 := n5_
                have BK447 := n6_
                have BK460 := n7_
                have HB := n8_
                clear n0_ n1_ n2_ n3_ n4_ n5_ n6_ n7_ n8_
                (try clear hb)
                (try clear hb2)
                (try clear hk)
                (try clear hi)
                (try clear ho0)
                refine hK.out _ _ ⟨(blk_cell BK389.out 0).trans rfl, (blk_cell BK389.out 1).trans rfl, (blk_cell BK390.out 0).trans rfl, (blk_cell BK390.out 1).trans rfl⟩ (fun hHeld => ?_)
                clear hK K
                refine norm_ (a' := ?_) ?_ ?_
                rotate_left
                ·
                 show Act.put _ (some 89) _ = _
                 simp only [Act.put, List.setIfInBounds_toArray, List.set_cons_zero, List.set_cons_succ, i64_w, i32_w]
                 rfl
                exact norm_ (by simp only [putAll, Act.put, List.setIfInBounds_toArray, List.set_cons_zero, List.set_cons_succ]) (hCont (.slice Ao112 t449.length co112, .slice Ao113 t453.length co113, v458, gb460) _ ⟨hHeld, (by (with_reducible repeat (first | apply Kd.R_alloc | apply Kd.R_drewN | apply Kd.R_drew)); exact Kd.R_mono HO451.out (fun _ hk => ⟨hk.1.2, hk.2⟩)), (by (with_reducible repeat (first | apply Kd.R_alloc | apply Kd.R_drewN | apply Kd.R_drew)); exact Kd.R_mono HO455.out (fun _ hk => ⟨hk.1.2, hk.2⟩)), (by (with_reducible repeat (first | apply Kd.R_alloc | apply Kd.R_drewN | apply Kd.R_drew)); exact Kd.R_mono HO459.out (fun _ hk => ⟨hk.1.2, hk.2⟩)), (bx BK389.out), (bx BK390.out), (bx BK396.out), (bx BK447.out), (bx BK460.out), GW460.out, GE460.out, NB389_460.out, NB460_389.out, NB390_460.out, NB460_390.out, NB396_460.out, NB460_396.out, NB447_460.out, NB460_447.out, (by repeat (first | (with_reducible first | exact HB.out | apply below_alloc | apply pw_below_drewN | apply below_drew1 | refine below_set ?_ GE389.out | refine below_set ?_ GE390.out | refine below_set ?_ GE396.out | refine below_set ?_ GE447.out | refine below_set ?_ GE460.out) | exact HB.out))⟩)
              ·
               skip
               refine box_step ?hg (N := 14) ?hd (cs := #[.bool false, .slice none 0 0]) (t := 31) ?hr ?_; (case hd => rfl); (case hg => rfl); (case hr => first | (go_simp; done) | (go_simp; rfl))
               intro gb460 hg w109 hbox hb
               have n0_ := ak (blk_below (g := gb389) (o := .cells #[.int .i64 a0_0, .int .u64 a0_1] 50 (0, 0)) (bx BK389.out) hb)
               have n1_ := ak (blk_below (g := gb390) (o := .cells #[.int .i64 a1_0, .int .u64 a1_1] 50 (0, 0)) (bx BK390.out) hb)
               have n2_ := ak (blk_below (g := gb396) (o := .cells #[.int .i64 t394, .int .u64 t395] 50 (0, 0)) (bx BK396.out) hb)
               have n3_ := ak (blk_below (g := gb447) (o := .cells #[.int .i64 t444, .int .u64 t445] 50 (0, 0)) (bx BK447.out) hb)
               have n4_ := ak (below_step (by repeat (first | (with_reducible first | exact HB.out | apply below_alloc | apply pw_below_drewN | apply below_drew1 | refine below_set ?_ GE389.out | refine below_set ?_ GE390.out | refine below_set ?_ GE396.out | refine below_set ?_ GE447.out) | exact HB.out)) hb)
               have n5_ := ak (hbox)
               have n6_ := ak ((by rw [hg]; exact (below_size (by repeat (first | (with_reducible first | exact HB.out | apply below_alloc | apply pw_below_drewN | apply below_drew1 | refine below_set ?_ GE389.out | refine below_set ?_ GE390.out | refine below_set ?_ GE396.out | refine below_set ?_ GE447.out) | exact HB.out))) : w.heap.size ≤ gb460))
               have n7_ := ak ((by rw [hg]; exact (below_size (by repeat (first | (with_reducible first | exact HB.out | apply below_alloc | apply pw_below_drewN | apply below_drew1 | refine below_set ?_ GE389.out | refine below_set ?_ GE390.out | refine below_set ?_ GE396.out | refine below_set ?_ GE447.out) | exact HB.out))) : w.heap.size ≤ gb460))
               have n8_ := ak ((by rw [hg]; exact Nat.ne_of_lt (blk_lt (g := gb389) (o := .cells #[.int .i64 a0_0, .int .u64 a0_1] 50 (0, 0)) (bx BK389.out)) : gb389 ≠ gb460))
               have n9_ := ak ((by rw [hg]; exact Nat.ne_of_gt (blk_lt (g := gb389) (o := .cells #[.int .i64 a0_0, .int .u64 a0_1] 50 (0, 0)) (bx BK389.out)) : gb460 ≠ gb389))
               have n10_ := ak ((by rw [hg]; exact Nat.ne_of_lt (blk_lt (g := gb390) (o := .cells #[.int .i64 a1_0, .int .u64 a1_1] 50 (0, 0)) (bx BK390.out)) : gb390 ≠ gb460))
               have n11_ := ak ((by rw [hg]; exact Nat.ne_of_gt (blk_lt (g := gb390) (o := .cells #[.int .i64 a1_0, .int .u64 a1_1] 50 (0, 0)) (bx BK390.out)) : gb460 ≠ gb390))
               have n12_ := ak ((by rw [hg]; exact Nat.ne_of_lt (blk_lt (g := gb396) (o := .cells #[.int .i64 t394, .int .u64 t395] 50 (0, 0)) (bx BK396.out)) : gb396 ≠ gb460))
               have n13_ := ak ((by rw [hg]; exact Nat.ne_of_gt (blk_lt (g := gb396) (o := .cells #[.int .i64 t394, .int .u64 t395] 50 (0, 0)) (bx BK396.out)) : gb460 ≠ gb396))
               have n14_ := ak ((by rw [hg]; exact Nat.ne_of_lt (blk_lt (g := gb447) (o := .cells #[.int .i64 t444, .int .u64 t445] 50 (0, 0)) (bx BK447.out)) : gb447 ≠ gb460))
               have n15_ := ak ((by rw [hg]; exact Nat.ne_of_gt (blk_lt (g := gb447) (o := .cells #[.int .i64 t444, .int .u64 t445] 50 (0, 0)) (bx BK447.out)) : gb460 ≠ gb447))
               clear BK389
               clear BK390
               clear BK396
               clear BK447
               clear HB
               have BK389 := n0_
               have BK390 := n1_
               have BK396 := n2_
               have BK447 := n3_
               have HB := n4_
               have BK460 := n5_
               have GW460 := n6_
               have GE460 := n7_
               have NB389_460 := n8_
               have NB460_389 := n9_
               have NB390_460 := n10_
               have NB460_390 := n11_
               have NB396_460 := n12_
               have NB460_396 := n13_
               have NB447_460 := n14_
               have NB460_447 := n15_
               clear n0_ n1_ n2_ n3_ n4_ n5_ n6_ n7_ n8_ n9_ n10_ n11_ n12_ n13_ n14_ n15_
               clear hb hbox hg
               refine hK.out _ _ ⟨(blk_cell BK389.out 0).trans rfl, (blk_cell BK389.out 1).trans rfl, (blk_cell BK390.out 0).trans rfl, (blk_cell BK390.out 1).trans rfl⟩ (fun hHeld => ?_)
               clear hK K
               refine norm_ (a' := ?_) ?_ ?_
               rotate_left
               ·
                show Act.put _ (some 14) _ = _
                simp only [Act.put, List.setIfInBounds_toArray, List.set_cons_zero, List.set_cons_succ, i64_w, i32_w]
                rfl
               refine one_ (i := 1) (N := some 86) #[true, true, true, false, false, true, false] rfl rfl (by kernel_rfl) (by decide) (fun K hK => ?_)
               refine goes_ Try.func23 (by kernel_rfl) rfl #[.agg #[.int .i64 a0_0, .int .u64 a0_1]] (by rfl) rfl rfl (by (try simp only [List.map_toArray, List.map_cons, List.map_nil]); first | done | rfl | (simp only [List.length_drop, List.length_take]; rfl)) ?_
               with_reducible refine (compasslaw01_wide.calls kj64 a0_0 a0_1 t448 t449 _ A88.out).mono ?_
               rintro e w110 ⟨v450, rfl, ho0, hb⟩
               refine ⟨_, rfl, ?_⟩
               have n0_ := ak (Kd.R_lower ho0 (below_size (by repeat (first | (with_reducible first | exact HB.out | apply below_alloc | apply pw_below_drewN | apply below_drew1 | refine below_set ?_ GE389.out | refine below_set ?_ GE390.out | refine below_set ?_ GE396.out | refine below_set ?_ GE447.out | refine below_set ?_ GE460.out) | exact HB.out))))
               have n1_ := ak (blk_below (g := gb389) (o := .cells #[.int .i64 a0_0, .int .u64 a0_1] 50 (0, 0)) (bx BK389.out) hb)
               have n2_ := ak (blk_below (g := gb390) (o := .cells #[.int .i64 a1_0, .int .u64 a1_1] 50 (0, 0)) (bx BK390.out) hb)
               have n3_ := ak (blk_below (g := gb396) (o := .cells #[.int .i64 t394, .int .u64 t395] 50 (0, 0)) (bx BK396.out) hb)
               have n4_ := ak (blk_below (g := gb447) (o := .cells #[.int .i64 t444, .int .u64 t445] 50 (0, 0)) (bx BK447.out) hb)
               have n5_ := ak (blk_below (g := gb460) (o := .cells #[.bool false, .slice none 0 0] 31 (0, 0)) (bx BK460.out) hb)
               have n6_ := ak (below_step (by repeat (first | (with_reducible first | exact HB.out | apply below_alloc | apply pw_below_drewN | apply below_drew1 | refine below_set ?_ GE389.out | refine below_set ?_ GE390.out | refine below_set ?_ GE396.out | refine below_set ?_ GE447.out | refine below_set ?_ GE460.out) | exact HB.out)) hb)
               clear BK389
               clear BK390
               clear BK396
               clear BK447
               clear BK460
               clear HB
               have HO451 := n0_
               have BK389 := n1_
               have BK390 := n2_
               have BK396 := n3_
               have BK447 := n4_
               have BK460 := n5_
               have HB := n6_
               clear n0_ n1_ n2_ n3_ n4_ n5_ n6_
               (try clear hb)
               (try clear hb2)
               (try clear hk)
               (try clear hi)
               (try clear ho0)
               refine hK.out _ _ ⟨(blk_cell BK389.out 0).trans rfl, (blk_cell BK389.out 1).trans rfl, (blk_cell BK390.out 0).trans rfl, (blk_cell BK390.out 1).trans rfl⟩ (fun hHeld => ?_)
               clear hK K
               refine norm_ (a' := ?_) ?_ ?_
               rotate_left
               ·
                show Act.put _ (some 86) _ = _
                simp only [Act.put, List.setIfInBounds_toArray, List.set_cons_zero, List.set_cons_succ, i64_w, i32_w]
                rfl
               refine one_ (i := 3) (N := some 88) #[true, true, true, true, false, true, false] rfl rfl (by kernel_rfl) (by decide) (fun K hK => ?_)
               refine goes_ Try.func23 (by kernel_rfl) rfl #[.agg #[.int .i64 a1_0, .int .u64 a1_1]] (by rfl) rfl rfl (by (try simp only [List.map_toArray, List.map_cons, List.map_nil]); first | done | rfl | (simp only [List.length_drop, List.length_take]; rfl)) ?_
               with_reducible refine (compasslaw01_wide.calls kj64 a1_0 a1_1 t452 t453 _ A89.out).mono ?_
               rintro e w111 ⟨v454, rfl, ho0, hb⟩
               refine ⟨_, rfl, ?_⟩
               have n0_ := ak (Kd.R_elder' (rx HO451.out) (Kd.R_base ho0) hb)
               have n1_ := ak (Kd.R_lower (Kd.R_new' ho0 (Kd.R_lt (rx HO451.out))) (below_size (by repeat (first | (with_reducible first | exact HB.out | apply below_alloc | apply pw_below_drewN | apply below_drew1 | refine below_set ?_ GE389.out | refine below_set ?_ GE390.out | refine below_set ?_ GE396.out | refine below_set ?_ GE447.out | refine below_set ?_ GE460.out) | exact HB.out))))
               have n2_ := ak (blk_below (g := gb389) (o := .cells #[.int .i64 a0_0, .int .u64 a0_1] 50 (0, 0)) (bx BK389.out) hb)
               have n3_ := ak (blk_below (g := gb390) (o := .cells #[.int .i64 a1_0, .int .u64 a1_1] 50 (0, 0)) (bx BK390.out) hb)
               have n4_ := ak (blk_below (g := gb396) (o := .cells #[.int .i64 t394, .int .u64 t395] 50 (0, 0)) (bx BK396.out) hb)
               have n5_ := ak (blk_below (g := gb447) (o := .cells #[.int .i64 t444, .int .u64 t445] 50 (0, 0)) (bx BK447.out) hb)
               have n6_ := ak (blk_below (g := gb460) (o := .cells #[.bool false, .slice none 0 0] 31 (0, 0)) (bx BK460.out) hb)
               have n7_ := ak (below_step (by repeat (first | (with_reducible first | exact HB.out | apply below_alloc | apply pw_below_drewN | apply below_drew1 | refine below_set ?_ GE389.out | refine below_set ?_ GE390.out | refine below_set ?_ GE396.out | refine below_set ?_ GE447.out | refine below_set ?_ GE460.out) | exact HB.out)) hb)
               clear HO451
               clear BK389
               clear BK390
               clear BK396
               clear BK447
               clear BK460
               clear HB
               have HO451 := n0_
               have HO455 := n1_
               have BK389 := n2_
               have BK390 := n3_
               have BK396 := n4_
               have BK447 := n5_
               have BK460 := n6_
               have HB := n7_
               clear n0_ n1_ n2_ n3_ n4_ n5_ n6_ n7_
               (try clear hb)
               (try clear hb2)
               (try clear hk)
               (try clear hi)
               (try clear ho0)
               obtain ⟨Ao112, co112, eo112⟩ := Kd.R_slice HO451.out
               (first | subst eo112 | (injection eo112 with f1_ f2_ f3_; have f4_ := f1_.symm; have f5_ := f3_.symm; clear f1_ f2_ f3_; subst f4_; subst f5_))
               obtain ⟨Ao113, co113, eo113⟩ := Kd.R_slice HO455.out
               (first | subst eo113 | (injection eo113 with f1_ f2_ f3_; have f4_ := f1_.symm; have f5_ := f3_.symm; clear f1_ f2_ f3_; subst f4_; subst f5_))
               refine hK.out _ _ ⟨(blk_cell BK389.out 0).trans rfl, (blk_cell BK389.out 1).trans rfl, (blk_cell BK390.out 0).trans rfl, (blk_cell BK390.out 1).trans rfl⟩ (fun hHeld => ?_)
               clear hK K
               refine norm_ (a' := ?_) ?_ ?_
               rotate_left
               ·
                show Act.put _ (some 88) _ = _
                simp only [Act.put, List.setIfInBounds_toArray, List.set_cons_zero, List.set_cons_succ, i64_w, i32_w]
                rfl
               refine one_ (i := 4) (N := some 89) #[true, true, true, true, true, true, false] rfl rfl (by kernel_rfl) (by decide) (fun K hK => ?_)
               refine goes_ Try.func13 (by kernel_rfl) rfl #[.agg #[.bool t448, .slice Ao112 t449.length co112], .agg #[.bool t452, .slice Ao113 t453.length co113]] (by rfl) rfl rfl (by (try simp only [List.map_toArray, List.map_cons, List.map_nil]); first | done | rfl | (simp only [List.length_drop, List.length_take]; rfl)) ?_
               with_reducible refine (compassref01_Plus.calls kj64 t448 _ _ t449 t452 _ _ t453 t456 t457 _ ?side1 ?side2 ?side3 ?side4 A90.out).mono ?_
               (case side1 => repeat (first | exact (Kd.R_reads' HO451.out).2.2 | (with_reducible refine Kd.C_alloc ?_ _) | (with_reducible refine Kd.C_drewN ?_ _) | (with_reducible refine Kd.C_drew ?_)))
               (case side2 => exact (Kd.R_reads' HO451.out).2.1)
               (case side3 => repeat (first | exact (Kd.R_reads' HO455.out).2.2 | (with_reducible refine Kd.C_alloc ?_ _) | (with_reducible refine Kd.C_drewN ?_ _) | (with_reducible refine Kd.C_drew ?_)))
               (case side4 => exact (Kd.R_reads' HO455.out).2.1)
               rintro e w114 ⟨v458, rfl, ho0, hb⟩
               refine ⟨_, rfl, ?_⟩
               have n0_ := ak (Kd.R_elder' (rx HO451.out) (Kd.R_base ho0) hb)
               have n1_ := ak (Kd.R_elder' (rx HO455.out) (Kd.R_base ho0) hb)
               have n2_ := ak (Kd.R_lower (Kd.R_new' (Kd.R_new' ho0 (Kd.R_lt (rx HO451.out))) (Kd.R_lt (rx HO455.out))) (below_size (by repeat (first | (with_reducible first | exact HB.out | apply below_alloc | apply pw_below_drewN | apply below_drew1 | refine below_set ?_ GE389.out | refine below_set ?_ GE390.out | refine below_set ?_ GE396.out | refine below_set ?_ GE447.out | refine below_set ?_ GE460.out) | exact HB.out))))
               have n3_ := ak (blk_below (g := gb389) (o := .cells #[.int .i64 a0_0, .int .u64 a0_1] 50 (0, 0)) (bx BK389.out) hb)
               have n4_ := ak (blk_below (g := gb390) (o := .cells #[.int .i64 a1_0, .int .u64 a1_1] 50 (0, 0)) (bx BK390.out) hb)
               have n5_ := ak (blk_below (g := gb396) (o := .cells #[.int .i64 t394, .int .u64 t395] 50 (0, 0)) (bx BK396.out) hb)
               have n6_ := ak (blk_below (g := gb447) (o := .cells #[.int .i64 t444, .int .u64 t445] 50 (0, 0)) (bx BK447.out) hb)
               have n7_ := ak (blk_below (g := gb460) (o := .cells #[.bool false, .slice none 0 0] 31 (0, 0)) (bx BK460.out) hb)
               have n8_ := ak (below_step (by repeat (first | (with_reducible first | exact HB.out | apply below_alloc | apply pw_below_drewN | apply below_drew1 | refine below_set ?_ GE389.out | refine below_set ?_ GE390.out | refine below_set ?_ GE396.out | refine below_set ?_ GE447.out | refine below_set ?_ GE460.out) | exact HB.out)) hb)
               clear HO451
               clear HO455
               clear BK389
               clear BK390
               clear BK396
               clear BK447
               clear BK460
               clear HB
               have HO451 := n0_
               have HO455 := n1_
               have HO459 := n2_
               have BK389 := n3_
               have BK390 := n4_
               have BK396 := n5_
               have BK447 := n6_
               have BK460 := n7_
               have HB := n8_
               clear n0_ n1_ n2_ n3_ n4_ n5_ n6_ n7_ n8_
               (try clear hb)
               (try clear hb2)
               (try clear hk)
               (try clear hi)
               (try clear ho0)
               refine hK.out _ _ ⟨(blk_cell BK389.out 0).trans rfl, (blk_cell BK389.out 1).trans rfl, (blk_cell BK390.out 0).trans rfl, (blk_cell BK390.out 1).trans rfl⟩ (fun hHeld => ?_)
               clear hK K
               refine norm_ (a' := ?_) ?_ ?_
               rotate_left
               ·
                show Act.put _ (some 89) _ = _
                simp only [Act.put, List.setIfInBounds_toArray, List.set_cons_zero, List.set_cons_succ, i64_w, i32_w]
                rfl
               exact norm_ (by simp only [putAll, Act.put, List.setIfInBounds_toArray, List.set_cons_zero, List.set_cons_succ]) (hCont (.slice Ao112 t449.length co112, .slice Ao113 t453.length co113, v458, gb460) _ ⟨hHeld, (by (with_reducible repeat (first | apply Kd.R_alloc | apply Kd.R_drewN | apply Kd.R_drew)); exact Kd.R_mono HO451.out (fun _ hk => ⟨hk.1.2, hk.2⟩)), (by (with_reducible repeat (first | apply Kd.R_alloc | apply Kd.R_drewN | apply Kd.R_drew)); exact Kd.R_mono HO455.out (fun _ hk => ⟨hk.1.2, hk.2⟩)), (by (with_reducible repeat (first | apply Kd.R_alloc | apply Kd.R_drewN | apply Kd.R_drew)); exact Kd.R_mono HO459.out (fun _ hk => ⟨hk.1.2, hk.2⟩)), (bx BK389.out), (bx BK390.out), (bx BK396.out), (bx BK447.out), (bx BK460.out), GW460.out, GE460.out, NB389_460.out, NB460_389.out, NB390_460.out, NB460_390.out, NB396_460.out, NB460_396.out, NB447_460.out, NB460_447.out, (by repeat (first | (with_reducible first | exact HB.out | apply below_alloc | apply pw_below_drewN | apply below_drew1 | refine below_set ?_ GE389.out | refine below_set ?_ GE390.out | refine below_set ?_ GE396.out | refine below_set ?_ GE447.out | refine below_set ?_ GE460.out) | exact HB.out))⟩)
             rintro ⟨v450, v454, v458, gb460⟩ w115 ⟨hS_, h0_, h1_, h2_, h3_, h4_, h5_, h6_, h7_, h8_, h9_, h10_, h11_, h12_, h13_, h14_, h15_, h16_, h17_, h18_⟩
             have n0_ : Aside0 (Kd.R (Kd.int .u64) 22 w115 w.heap.size (fun k_ => some k_ ≠ (v454 : Value).ownBlock ∧ some k_ ≠ (v458 : Value).ownBlock) v450 t449) := ⟨h0_⟩
             have n1_ : Aside0 (Kd.R (Kd.int .u64) 22 w115 w.heap.size (fun k_ => some k_ ≠ (v450 : Value).ownBlock ∧ some k_ ≠ (v458 : Value).ownBlock) v454 t453) := ⟨h1_⟩
             have n2_ : Aside0 (Kd.R (Kd.int .u64) 22 w115 w.heap.size (fun k_ => some k_ ≠ (v450 : Value).ownBlock ∧ some k_ ≠ (v454 : Value).ownBlock) v458 t457) := ⟨h2_⟩
             have n3_ : Aside0 (w115.heap[gb389]? = some (.cells #[.int .i64 a0_0, .int .u64 a0_1] 50 (0, 0))) := ⟨h3_⟩
             have n4_ : Aside0 (w115.heap[gb390]? = some (.cells #[.int .i64 a1_0, .int .u64 a1_1] 50 (0, 0))) := ⟨h4_⟩
             have n5_ : Aside0 (w115.heap[gb396]? = some (.cells #[.int .i64 t394, .int .u64 t395] 50 (0, 0))) := ⟨h5_⟩
             have n6_ : Aside0 (w115.heap[gb447]? = some (.cells #[.int .i64 t444, .int .u64 t445] 50 (0, 0))) := ⟨h6_⟩
             have n7_ : Aside0 (w115.heap[gb460]? = some (.cells #[.bool false, .slice none 0 0] 31 (0, 0))) := ⟨h7_⟩
             have n8_ : Aside0 (w.heap.size ≤ gb460) := ⟨h8_⟩
             have n9_ : Aside0 (w.heap.size ≤ gb460) := ⟨h9_⟩
             have n10_ : Aside0 (gb389 ≠ gb460) := ⟨h10_⟩
             have n11_ : Aside0 (gb460 ≠ gb389) := ⟨h11_⟩
             have n12_ : Aside0 (gb390 ≠ gb460) := ⟨h12_⟩
             have n13_ : Aside0 (gb460 ≠ gb390) := ⟨h13_⟩
             have n14_ : Aside0 (gb396 ≠ gb460) := ⟨h14_⟩
             have n15_ : Aside0 (gb460 ≠ gb396) := ⟨h15_⟩
             have n16_ : Aside0 (gb447 ≠ gb460) := ⟨h16_⟩
             have n17_ : Aside0 (gb460 ≠ gb447) := ⟨h17_⟩
             have n18_ : Aside0 (Below w.heap.size w w115) := ⟨h18_⟩
             clear BK389
             clear BK390
             clear BK396
             clear BK447
             clear HB
             clear h0_ h1_ h2_ h3_ h4_ h5_ h6_ h7_ h8_ h9_ h10_ h11_ h12_ h13_ h14_ h15_ h16_ h17_ h18_
             have HO451 := n0_
             have HO455 := n1_
             have HO459 := n2_
             have BK389 := n3_
             have BK390 := n4_
             have BK396 := n5_
             have BK447 := n6_
             have BK460 := n7_
             have GW460 := n8_
             have GE460 := n9_
             have NB389_460 := n10_
             have NB460_389 := n11_
             have NB390_460 := n12_
             have NB460_390 := n13_
             have NB396_460 := n14_
             have NB460_396 := n15_
             have NB447_460 := n16_
             have NB460_447 := n17_
             have HB := n18_
             clear n0_ n1_ n2_ n3_ n4_ n5_ n6_ n7_ n8_ n9_ n10_ n11_ n12_ n13_ n14_ n15_ n16_ n17_ n18_
             have hHeld : w115.cell? ⟨gb389, 0, none⟩ = some (.int .i64 a0_0) ∧ w115.cell? ⟨gb389, 1, none⟩ = some (.int .u64 a0_1) ∧ w115.cell? ⟨gb390, 0, none⟩ = some (.int .i64 a1_0) ∧ w115.cell? ⟨gb390, 1, none⟩ = some (.int .u64 a1_1) := hS_
             obtain ⟨Ao117, co117, eo117⟩ := Kd.R_slice HO459.out
             (first | subst eo117 | (injection eo117 with f1_ f2_ f3_; have f4_ := f1_.symm; have f5_ := f3_.symm; clear f1_ f2_ f3_; subst f4_; subst f5_))
             refine norm_ (a' := ?_) ?_ ?_
             rotate_left
             ·
              simp only [putAll, Act.put, List.setIfInBounds_toArray, List.set_cons_zero, List.set_cons_succ]
              rfl
             refine one_ (i := 6) (N := none) #[true, true, true, true, true, true, true] rfl rfl (by kernel_rfl) (by decide) (fun K hK => ?_)
             have hs116 : w115.cell? ⟨gb460, 0, none⟩ = some (.bool false) := (blk_cell BK460.out 0).trans rfl
             have hfs116 := blk_frozen BK460.out 0
             have hns116_0 := NB389_460.out
             have hns116_1 := NB390_460.out
             have hns116_2 := NB396_460.out
             have hns116_3 := NB447_460.out
             have hms116_0 := NB460_389.out
             have hms116_1 := NB460_390.out
             have hms116_2 := NB460_396.out
             have hms116_3 := NB460_447.out
             have hs118 : w115.cell? ⟨gb460, 1, none⟩ = some (.slice none 0 0) := (blk_cell BK460.out 1).trans rfl
             have hfs118 := blk_frozen BK460.out 1
             have hns118_0 := NB389_460.out
             have hns118_1 := NB390_460.out
             have hns118_2 := NB396_460.out
             have hns118_3 := NB447_460.out
             have hms118_0 := NB460_389.out
             have hms118_1 := NB460_390.out
             have hms118_2 := NB460_396.out
             have hms118_3 := NB460_447.out
             refine skip_ (w1 := ?_) (by rfl) rfl ?_ ?_
             rotate_left
             ·
              go_simp
              rfl
             refine hK.out _ _ ⟨((cell_far (p := ⟨gb460, _, none⟩) NB389_460.out _).trans (((cell_far (p := ⟨gb460, _, none⟩) NB389_460.out _).trans (hHeld.1)))), ((cell_far (p := ⟨gb460, _, none⟩) NB389_460.out _).trans (((cell_far (p := ⟨gb460, _, none⟩) NB389_460.out _).trans (hHeld.2.1)))), ((cell_far (p := ⟨gb460, _, none⟩) NB390_460.out _).trans (((cell_far (p := ⟨gb460, _, none⟩) NB390_460.out _).trans (hHeld.2.2.1)))), ((cell_far (p := ⟨gb460, _, none⟩) NB390_460.out _).trans (((cell_far (p := ⟨gb460, _, none⟩) NB390_460.out _).trans (hHeld.2.2.2))))⟩ (fun hHeld => ?_)
             clear hK K
             refine done_ (by kernel_rfl) ?_
             have hnb119 := NB460_389.out
             have hnc119 := NB389_460.out
             have hnb120 := NB460_390.out
             have hnc120 := NB390_460.out
             have hnb121 := NB460_396.out
             have hnc121 := NB396_460.out
             have hnb122 := NB460_447.out
             have hnc122 := NB447_460.out
             have hcz123_0 : w115.cell? ⟨gb460, 0, none⟩ = some (.bool false) := (blk_cell BK460.out 0).trans rfl
             have hcz123_1 : w115.cell? ⟨gb460, 1, none⟩ = some (.slice none 0 0) := (blk_cell BK460.out 1).trans rfl
             have hfz123_0 := blk_frozen BK460.out 0
             have hfz123_1 := blk_frozen BK460.out 1
             try go_wp2_with (first | ((with_reducible refine gate_callee (f := 29) rfl ?_); refine goesL_ (some 91) rfl rfl Try.func29 (by kernel_rfl) rfl #[.agg #[.bool t456, .slice Ao117 t457.length co117]] rfl (by (try simp only [List.map_toArray, List.map_cons, List.map_nil]); first | done | rfl | (simp only [List.length_drop, List.length_take]; rfl)) ?_; (with_reducible refine (compassref01_Fits.calls kj64 t456 _ _ t457 true _ ?side1 ?side2 A91.out).mono ?_); (case side1 => refine (Kd.R_reads' (e := 22) (base := w.heap.size) (ok := fun k_ => (some k_ ≠ (v450 : Value).ownBlock ∧ some k_ ≠ (v454 : Value).ownBlock)) (n := t457.length) (c := co117) ?_).2.2; exact (by (with_reducible repeat (first | apply Kd.R_alloc | apply Kd.R_drewN | apply Kd.R_drew)); exact (Kd.R_mono (Kd.R_far (p := ⟨gb460, 1, none⟩) (Kd.R_far (p := ⟨gb460, 0, none⟩) (Kd.R_types HO459.out BK460.out (by decide)) (fun _ hk => hk.2) (.bool t456)) (fun _ hk => hk.2) (.slice Ao117 t457.length co117)) (fun _ h_ => h_.1)))); (case side2 => exact (Kd.R_reads' HO459.out).2.1); rintro e w124 ⟨rfl, hb⟩; refine ⟨_, rfl, ?_⟩; have n0_ := ak (Kd.R_below (by (with_reducible repeat (first | apply Kd.R_alloc | apply Kd.R_drewN | apply Kd.R_drew)); exact (Kd.R_mono (Kd.R_far (p := ⟨gb460, 1, none⟩) (Kd.R_far (p := ⟨gb460, 0, none⟩) (Kd.R_types HO451.out BK460.out (by decide)) (fun _ hk => hk.2) (.bool t456)) (fun _ hk => hk.2) (.slice Ao117 t457.length co117)) (fun _ h_ => h_.1))) hb); have n1_ := ak (Kd.R_below (by (with_reducible repeat (first | apply Kd.R_alloc | apply Kd.R_drewN | apply Kd.R_drew)); exact (Kd.R_mono (Kd.R_far (p := ⟨gb460, 1, none⟩) (Kd.R_far (p := ⟨gb460, 0, none⟩) (Kd.R_types HO455.out BK460.out (by decide)) (fun _ hk => hk.2) (.bool t456)) (fun _ hk => hk.2) (.slice Ao117 t457.length co117)) (fun _ h_ => h_.1))) hb); have n2_ := ak (Kd.R_below (by (with_reducible repeat (first | apply Kd.R_alloc | apply Kd.R_drewN | apply Kd.R_drew)); exact (Kd.R_mono (Kd.R_far (p := ⟨gb460, 1, none⟩) (Kd.R_far (p := ⟨gb460, 0, none⟩) (Kd.R_types HO459.out BK460.out (by decide)) (fun _ hk => hk.2) (.bool t456)) (fun _ hk => hk.2) (.slice Ao117 t457.length co117)) (fun _ h_ => h_.1))) hb); have n3_ := ak (blk_below (g := gb389) (o := .cells #[.int .i64 a0_0, .int .u64 a0_1] 50 (0, 0)) (by (with_reducible repeat (first | refine blk_drewN ?_ _ | refine blk_drew ?_ | refine blk_alloc ?_ _)); refine blk_far ?_ NB389_460.out _; (with_reducible repeat (first | refine blk_drewN ?_ _ | refine blk_drew ?_ | refine blk_alloc ?_ _)); refine blk_far ?_ NB389_460.out _; exact bx BK389.out) hb); have n4_ := ak (blk_below (g := gb390) (o := .cells #[.int .i64 a1_0, .int .u64 a1_1] 50 (0, 0)) (by (with_reducible repeat (first | refine blk_drewN ?_ _ | refine blk_drew ?_ | refine blk_alloc ?_ _)); refine blk_far ?_ NB390_460.out _; (with_reducible repeat (first | refine blk_drewN ?_ _ | refine blk_drew ?_ | refine blk_alloc ?_ _)); refine blk_far ?_ NB390_460.out _; exact bx BK390.out) hb); have n5_ := ak (blk_below (g := gb396) (o := .cells #[.int .i64 t394, .int .u64 t395] 50 (0, 0)) (by (with_reducible repeat (first | refine blk_drewN ?_ _ | refine blk_drew ?_ | refine blk_alloc ?_ _)); refine blk_far ?_ NB396_460.out _; (with_reducible repeat (first | refine blk_drewN ?_ _ | refine blk_drew ?_ | refine blk_alloc ?_ _)); refine blk_far ?_ NB396_460.out _; exact bx BK396.out) hb); have n6_ := ak (blk_below (g := gb447) (o := .cells #[.int .i64 t444, .int .u64 t445] 50 (0, 0)) (by (with_reducible repeat (first | refine blk_drewN ?_ _ | refine blk_drew ?_ | refine blk_alloc ?_ _)); refine blk_far ?_ NB447_460.out _; (with_reducible repeat (first | refine blk_drewN ?_ _ | refine blk_drew ?_ | refine blk_alloc ?_ _)); refine blk_far ?_ NB447_460.out _; exact bx BK447.out) hb); have n7_ := ak (blk_below (g := gb460) (o := .cells #[.bool t456, .slice Ao117 t457.length co117] 31 (0, 0)) (by (with_reducible repeat (first | refine blk_drewN ?_ _ | refine blk_drew ?_ | refine blk_alloc ?_ _)); refine blk_put (cs := #[.bool t456, .slice none 0 0]) ?_ 1 _ rfl; (with_reducible repeat (first | refine blk_drewN ?_ _ | refine blk_drew ?_ | refine blk_alloc ?_ _)); refine blk_put (cs := #[.bool false, .slice none 0 0]) ?_ 0 _ rfl; exact bx BK460.out) hb); have n8_ := ak (below_step (by repeat (first | (with_reducible first | exact HB.out | apply below_alloc | apply pw_below_drewN | apply below_drew1 | refine below_set ?_ GE389.out | refine below_set ?_ GE390.out | refine below_set ?_ GE396.out | refine below_set ?_ GE447.out | refine below_set ?_ GE460.out) | exact HB.out)) hb); clear HO451; clear HO455; clear HO459; clear BK389; clear BK390; clear BK396; clear BK447; clear BK460; clear HB; have HO451 := n0_; have HO455 := n1_; have HO459 := n2_; have BK389 := n3_; have BK390 := n4_; have BK396 := n5_; have BK447 := n6_; have BK460 := n7_; have HB := n8_; clear n0_ n1_ n2_ n3_ n4_ n5_ n6_ n7_ n8_; (try clear hb); (try clear hb2); (try clear hk); (try clear hi)))
             have n0_ := ak (Kd.R_drew HO451.out)
             have n1_ := ak (Kd.R_drew HO455.out)
             have n2_ := ak (Kd.R_drew HO459.out)
             have n3_ := ak (blk_drew BK389.out)
             have n4_ := ak (blk_drew BK390.out)
             have n5_ := ak (blk_drew BK396.out)
             have n6_ := ak (blk_drew BK447.out)
             have n7_ := ak (blk_drew BK460.out)
             have n8_ := ak (below_drew1 HB.out)
             clear HO451
             clear HO455
             clear HO459
             clear BK389
             clear BK390
             clear BK396
             clear BK447
             clear BK460
             clear HB
             have HO451 := n0_
             have HO455 := n1_
             have HO459 := n2_
             have BK389 := n3_
             have BK390 := n4_
             have BK396 := n5_
             have BK447 := n6_
             have BK460 := n7_
             have HB := n8_
             clear n0_ n1_ n2_ n3_ n4_ n5_ n6_ n7_ n8_
             refine start_ (n := 10) (S := fun w' => w'.cell? ⟨gb447, 0, none⟩ = some (.int .i64 t444) ∧ w'.cell? ⟨gb447, 1, none⟩ = some (.int .u64 t445) ∧ w'.cell? ⟨gb460, 0, none⟩ = some (.bool t456) ∧ w'.cell? ⟨gb460, 1, none⟩ = some (.slice Ao117 t457.length co117)) (ds := []) #[false, false, false, false, false, false, false, false, false, false] (by kernel_rfl) rfl rfl ⟨(blk_cell BK447.out 0).trans rfl, (blk_cell BK447.out 1).trans rfl, (blk_cell BK460.out 0).trans rfl, (blk_cell BK460.out 1).trans rfl⟩ (fun hHeld => ?_); refine with_tabW compasslaw01_SafeWides.tab16 compasslaw01_SafeWides.bits16 (fun HT_ HW_ => ?_)
             generalize w124.drew = w125 at HO451 HO455 HO459 BK389 BK390 BK396 BK447 BK460 HB hHeld ⊢
             refine pure_ (i := 0) (N := some 100) (v := ?_) (a' := ?_) #[true, false, false, false, false, false, false, false, false, false] rfl rfl (any_of HT_.out (by kernel_rfl)) (fun _ _ _ h => h) (Or.inl ⟨by rfl, ?_⟩) ?_ ?_
             rotate_left
             ·
              intro w'
              go_simp
              with_reducible rfl
             rotate_left
             ·
              simp only [Act.put, List.setIfInBounds_toArray, List.set_cons_zero, List.set_cons_succ, i64_w, i32_w]
              rfl
             refine pure_ (i := 1) (N := some 101) (v := ?_) (a' := ?_) #[true, true, false, false, false, false, false, false, false, false] rfl rfl (any_of HT_.out (by kernel_rfl)) (fun _ _ _ h => h) (Or.inl ⟨by rfl, ?_⟩) ?_ ?_
             rotate_left
             ·
              intro w'
              go_simp
              with_reducible rfl
             rotate_left
             ·
              simp only [Act.put, List.setIfInBounds_toArray, List.set_cons_zero, List.set_cons_succ, i64_w, i32_w]
              rfl
             refine pure_ (i := 2) (N := some 102) (v := ?_) (a' := ?_) #[true, true, true, false, false, false, false, false, false, false] rfl rfl (any_of HT_.out (by kernel_rfl)) (fun _ _ _ h => h) (Or.inl ⟨by rfl, ?_⟩) ?_ ?_
             rotate_left
             ·
              intro w'
              go_simp
              with_reducible rfl
             rotate_left
             ·
              simp only [Act.put, List.setIfInBounds_toArray, List.set_cons_zero, List.set_cons_succ, i64_w, i32_w]
              rfl
             refine take_ (i := 3) (N := some 103) (v := ?_) (a' := ?_) #[true, true, true, true, false, false, false, false, false, false] rfl rfl (take_ofW HT_.out HW_.out (by kernel_rfl)) (fun _ _ _ h => h) (Or.inl ⟨by rfl, ?_⟩) hHeld ?_ ?_
             rotate_left
             ·
              rintro w' ⟨s0, s1, s2, s3⟩
              go_simp
              with_reducible rfl
             rotate_left
             ·
              simp only [Act.put, List.setIfInBounds_toArray, List.set_cons_zero, List.set_cons_succ, i64_w, i32_w]
              rfl
             refine take_ (i := 5) (N := some 105) (v := ?_) (a' := ?_) #[true, true, true, true, false, true, false, false, false, false] rfl rfl (take_ofW HT_.out HW_.out (by kernel_rfl)) (fun _ _ _ h => h) (Or.inl ⟨by rfl, ?_⟩) hHeld ?_ ?_
             rotate_left
             ·
              rintro w' ⟨s0, s1, s2, s3⟩
              go_simp
              with_reducible rfl
             rotate_left
             ·
              simp only [Act.put, List.setIfInBounds_toArray, List.set_cons_zero, List.set_cons_succ, i64_w, i32_w]
              rfl
             refine one_ (i := 4) (N := some 104) #[true, true, true, true, true, true, false, false, false, false] rfl rfl (one_of HT_.out (by kernel_rfl)) (by decide) (fun K hK => ?_)
             refine goes_ Try.func23 (by kernel_rfl) rfl #[.agg #[.int .i64 t444, .int .u64 t445]] (by rfl) rfl rfl (by (try simp only [List.map_toArray, List.map_cons, List.map_nil]); first | done | rfl | (simp only [List.length_drop, List.length_take]; rfl)) ?_
             with_reducible refine (compasslaw01_wide.calls kj64 t444 t445 t462 t463 _ A94.out).mono ?_
             rintro e w126 ⟨v464, rfl, ho0, hb⟩
             refine ⟨_, rfl, ?_⟩
             have n0_ := ak (Kd.R_elder' (rx HO451.out) (Kd.R_base ho0) hb)
             have n1_ := ak (Kd.R_elder' (rx HO455.out) (Kd.R_base ho0) hb)
             have n2_ := ak (Kd.R_elder' (rx HO459.out) (Kd.R_base ho0) hb)
             have n3_ := ak (Kd.R_lower (Kd.R_new' (Kd.R_new' (Kd.R_new' ho0 (Kd.R_lt (rx HO451.out))) (Kd.R_lt (rx HO455.out))) (Kd.R_lt (rx HO459.out))) (below_size (by repeat (first | (with_reducible first | exact HB.out | apply below_alloc | apply pw_below_drewN | apply below_drew1 | refine below_set ?_ GE389.out | refine below_set ?_ GE390.out | refine below_set ?_ GE396.out | refine below_set ?_ GE447.out | refine below_set ?_ GE460.out) | exact HB.out))))
             have n4_ := ak (blk_below (g := gb389) (o := .cells #[.int .i64 a0_0, .int .u64 a0_1] 50 (0, 0)) (bx BK389.out) hb)
             have n5_ := ak (blk_below (g := gb390) (o := .cells #[.int .i64 a1_0, .int .u64 a1_1] 50 (0, 0)) (bx BK390.out) hb)
             have n6_ := ak (blk_below (g := gb396) (o := .cells #[.int .i64 t394, .int .u64 t395] 50 (0, 0)) (bx BK396.out) hb)
             have n7_ := ak (blk_below (g := gb447) (o := .cells #[.int .i64 t444, .int .u64 t445] 50 (0, 0)) (bx BK447.out) hb)
             have n8_ := ak (blk_below (g := gb460) (o := .cells #[.bool t456, .slice Ao117 t457.length co117] 31 (0, 0)) (bx BK460.out) hb)
             have n9_ := ak (below_step (by repeat (first | (with_reducible first | exact HB.out | apply below_alloc | apply pw_below_drewN | apply below_drew1 | refine below_set ?_ GE389.out | refine below_set ?_ GE390.out | refine below_set ?_ GE396.out | refine below_set ?_ GE447.out | refine below_set ?_ GE460.out) | exact HB.out)) hb)
             clear HO451
             clear HO455
             clear HO459
             clear BK389
             clear BK390
             clear BK396
             clear BK447
             clear BK460
             clear HB
             have HO451 := n0_
             have HO455 := n1_
             have HO459 := n2_
             have HO465 := n3_
             have BK389 := n4_
             have BK390 := n5_
             have BK396 := n6_
             have BK447 := n7_
             have BK460 := n8_
             have HB := n9_
             clear n0_ n1_ n2_ n3_ n4_ n5_ n6_ n7_ n8_ n9_
             (try clear hb)
             (try clear hb2)
             (try clear hk)
             (try clear hi)
             (try clear ho0)
             obtain ⟨Ao127, co127, eo127⟩ := Kd.R_slice HO465.out
             (first | subst eo127 | (injection eo127 with f1_ f2_ f3_; have f4_ := f1_.symm; have f5_ := f3_.symm; clear f1_ f2_ f3_; subst f4_; subst f5_))
             refine hK.out _ _ ⟨(blk_cell BK447.out 0).trans rfl, (blk_cell BK447.out 1).trans rfl, (blk_cell BK460.out 0).trans rfl, (blk_cell BK460.out 1).trans rfl⟩ (fun hHeld => ?_)
             clear hK K
             refine norm_ (a' := ?_) ?_ ?_
             rotate_left
             ·
              show Act.put _ (some 104) _ = _
              simp only [Act.put, List.setIfInBounds_toArray, List.set_cons_zero, List.set_cons_succ, i64_w, i32_w]
              rfl
             refine one_ (i := 6) (N := some 106) #[true, true, true, true, true, true, true, false, false, false] rfl rfl (one_of HT_.out (by kernel_rfl)) (by decide) (fun K hK => ?_)
             refine goes_ Try.func16 (by kernel_rfl) rfl #[.agg #[.bool t462, .slice Ao127 t463.length co127], .agg #[.bool t456, .slice Ao117 t457.length co117]] (by rfl) rfl rfl (by (try simp only [List.map_toArray, List.map_cons, List.map_nil]); first | done | rfl | (simp only [List.length_drop, List.length_take]; rfl)) ?_
             with_reducible refine (compassref01_Compare.calls kj64 t462 _ _ t463 t456 _ _ t457 t466 _ ?side1 ?side2 ?side3 ?side4 A95.out).mono ?_
             (case side1 => repeat (first | exact (Kd.R_reads' HO465.out).2.2 | (with_reducible refine Kd.C_alloc ?_ _) | (with_reducible refine Kd.C_drewN ?_ _) | (with_reducible refine Kd.C_drew ?_)))
             (case side2 => exact (Kd.R_reads' HO465.out).2.1)
             (case side3 => repeat (first | exact (Kd.R_reads' HO459.out).2.2 | (with_reducible refine Kd.C_alloc ?_ _) | (with_reducible refine Kd.C_drewN ?_ _) | (with_reducible refine Kd.C_drew ?_)))
             (case side4 => exact (Kd.R_reads' HO459.out).2.1)
             rintro e w128 ⟨rfl, hb⟩
             refine ⟨_, rfl, ?_⟩
             have n0_ := ak (Kd.R_below (rx HO451.out) hb)
             have n1_ := ak (Kd.R_below (rx HO455.out) hb)
             have n2_ := ak (Kd.R_below (rx HO459.out) hb)
             have n3_ := ak (Kd.R_below (rx HO465.out) hb)
             have n4_ := ak (blk_below (g := gb389) (o := .cells #[.int .i64 a0_0, .int .u64 a0_1] 50 (0, 0)) (bx BK389.out) hb)
             have n5_ := ak (blk_below (g := gb390) (o := .cells #[.int .i64 a1_0, .int .u64 a1_1] 50 (0, 0)) (bx BK390.out) hb)
             have n6_ := ak (blk_below (g := gb396) (o := .cells #[.int .i64 t394, .int .u64 t395] 50 (0, 0)) (bx BK396.out) hb)
             have n7_ := ak (blk_below (g := gb447) (o := .cells #[.int .i64 t444, .int .u64 t445] 50 (0, 0)) (bx BK447.out) hb)
             have n8_ := ak (blk_below (g := gb460) (o := .cells #[.bool t456, .slice Ao117 t457.length co117] 31 (0, 0)) (bx BK460.out) hb)
             have n9_ := ak (below_step (by repeat (first | (with_reducible first | exact HB.out | apply below_alloc | apply pw_below_drewN | apply below_drew1 | refine below_set ?_ GE389.out | refine below_set ?_ GE390.out | refine below_set ?_ GE396.out | refine below_set ?_ GE447.out | refine below_set ?_ GE460.out) | exact HB.out)) hb)
             clear HO451
             clear HO455
             clear HO459
             clear HO465
             clear BK389
             clear BK390
             clear BK396
             clear BK447
             clear BK460
             clear HB
             have HO451 := n0_
             have HO455 := n1_
             have HO459 := n2_
             have HO465 := n3_
             have BK389 := n4_
             have BK390 := n5_
             have BK396 := n6_
             have BK447 := n7_
             have BK460 := n8_
             have HB := n9_
             clear n0_ n1_ n2_ n3_ n4_ n5_ n6_ n7_ n8_ n9_
             (try clear hb)
             (try clear hb2)
             (try clear hk)
             (try clear hi)
             refine hK.out _ _ ⟨(blk_cell BK447.out 0).trans rfl, (blk_cell BK447.out 1).trans rfl, (blk_cell BK460.out 0).trans rfl, (blk_cell BK460.out 1).trans rfl⟩ (fun hHeld => ?_)
             clear hK K
             refine norm_ (a' := ?_) ?_ ?_
             rotate_left
             ·
              show Act.put _ (some 106) _ = _
              simp only [Act.put, List.setIfInBounds_toArray, List.set_cons_zero, List.set_cons_succ, i64_w, i32_w]
              rfl
             refine pure_ (i := 7) (N := some 107) (v := ?_) (a' := ?_) #[true, true, true, true, true, true, true, true, false, false] rfl rfl (any_of HT_.out (by kernel_rfl)) (fun _ _ _ h => h) (Or.inl ⟨by rfl, ?_⟩) ?_ ?_
             rotate_left
             ·
              intro w'
              go_simp
              with_reducible rfl
             rotate_left
             ·
              simp only [Act.put, List.setIfInBounds_toArray, List.set_cons_zero, List.set_cons_succ, i64_w, i32_w]
              rfl
             refine pure_ (i := 8) (N := some 108) (v := ?_) (a' := ?_) #[true, true, true, true, true, true, true, true, true, false] rfl rfl (any_of HT_.out (by kernel_rfl)) (fun _ _ _ h => h) (Or.inl ⟨by rfl, ?_⟩) ?_ ?_
             rotate_left
             ·
              intro w'
              go_simp
              with_reducible rfl
             rotate_left
             ·
              simp only [Act.put, List.setIfInBounds_toArray, List.set_cons_zero, List.set_cons_succ, i64_w, i32_w]
              rfl
             refine pure_ (i := 9) (N := some 6) (v := ?_) (a' := ?_) #[true, true, true, true, true, true, true, true, true, true] rfl rfl (any_of HT_.out (by kernel_rfl)) (fun _ _ _ h => h) (Or.inl ⟨by rfl, ?_⟩) ?_ ?_
             rotate_left
             ·
              intro w'
              go_simp
              with_reducible rfl
             rotate_left
             ·
              simp only [Act.put, List.setIfInBounds_toArray, List.set_cons_zero, List.set_cons_succ, i64_w, i32_w]
              rfl
             refine done_ (done_of HT_.out (by kernel_rfl)) ?_
             try go_wp2
             go_ret
             exact ⟨by first | rfl | (simp [errW_none, errW_some] <;> rfl) | (simp [*, errW_none, errW_some] <;> rfl), by repeat (first | (with_reducible first | exact HB.out | apply below_alloc | apply pw_below_drewN | apply below_drew1 | refine below_set ?_ GE389.out | refine below_set ?_ GE390.out | refine below_set ?_ GE396.out | refine below_set ?_ GE447.out | refine below_set ?_ GE460.out) | exact HB.out)⟩
            ·
             rw [if_neg c93] at H
             have c93b0 : (t446 == 0) = false := beq_eq_false_iff_ne.mpr c93
             have c93b1 : (t446 != 0) = true := bne_iff_ne.mpr c93
             exact absurd ((Option.some.inj H).trans HR_.out) (by decide)
           ·
            replace c92 := Bool.eq_false_iff.mpr c92
            subst c92
            have H1 : (if t446 = 10 then (some (t444 == 0 && (t445 == 0))) else (some false)) = some r := by rw [if_neg (show ¬ (false = true) by decide)] at H; exact H
            clear H
            have H := H1
            clear H1
            by_cases c129 : t446 = 10
            ·
             rw [if_pos c129] at H
             have c129b0 : (t446 == 10) = true := beq_iff_eq.mpr c129
             have c129b1 : (t446 != 10) = false := bne_eq_false_iff_eq.mpr c129
             clear c129
             obtain rfl := Option.some.inj H
             have hnb130 := NB389_390.out
             have hnc130 := NB390_389.out
             have hnb131 := NB389_396.out
             have hnc131 := NB396_389.out
             have hcz132_0 : wc.cell? ⟨gb389, 0, none⟩ = some (.int .i64 a0_0) := (blk_cell BK389.out 0).trans rfl
             have hcz132_1 : wc.cell? ⟨gb389, 1, none⟩ = some (.int .u64 a0_1) := (blk_cell BK389.out 1).trans rfl
             have hfz132_0 := blk_frozen BK389.out 0
             have hfz132_1 := blk_frozen BK389.out 1
             have hnb133 := NB390_396.out
             have hnc133 := NB396_390.out
             have hcz134_0 : wc.cell? ⟨gb390, 0, none⟩ = some (.int .i64 a1_0) := (blk_cell BK390.out 0).trans rfl
             have hcz134_1 : wc.cell? ⟨gb390, 1, none⟩ = some (.int .u64 a1_1) := (blk_cell BK390.out 1).trans rfl
             have hfz134_0 := blk_frozen BK390.out 0
             have hfz134_1 := blk_frozen BK390.out 1
             try go_wp2_with (first | ((with_reducible refine gate_callee (f := 28) rfl ?_); refine goesL_ (some 82) rfl rfl Try.func28 (by kernel_rfl) rfl #[.agg #[.int .i64 a0_0, .int .u64 a0_1], .agg #[.int .i64 a1_0, .int .u64 a1_1]] rfl (by (try simp only [List.map_toArray, List.map_cons, List.map_nil]); first | done | rfl | (simp only [List.length_drop, List.length_take]; rfl)) ?_; (with_reducible refine (safeint_Plus.calls a0_0 a0_1 a1_0 a1_1 t444 t445 t446 _ A87.out).mono ?_); rintro e w135 ⟨rfl, hb⟩; refine ⟨_, rfl, ?_⟩; have n0_ := ak (blk_below (g := gb389) (o := .cells #[.int .i64 a0_0, .int .u64 a0_1] 50 (0, 0)) (bx BK389.out) hb); have n1_ := ak (blk_below (g := gb390) (o := .cells #[.int .i64 a1_0, .int .u64 a1_1] 50 (0, 0)) (bx BK390.out) hb); have n2_ := ak (blk_below (g := gb396) (o := .cells #[.int .i64 t394, .int .u64 t395] 50 (0, 0)) (bx BK396.out) hb); have n3_ := ak (below_step (by repeat (first | (with_reducible first | exact HB.out | apply below_alloc | apply pw_below_drewN | apply below_drew1 | refine below_set ?_ GE389.out | refine below_set ?_ GE390.out | refine below_set ?_ GE396.out) | exact HB.out)) hb); clear BK389; clear BK390; clear BK396; clear HB; have BK389 := n0_; have BK390 := n1_; have BK396 := n2_; have HB := n3_; clear n0_ n1_ n2_ n3_; (try clear hb); (try clear hb2); (try clear hk); (try clear hi)) | ((with_reducible refine gate_dst (N := 12) rfl ?_); refine box_event ?hg (N := 12) ?hd (cs := #[.int .i64 0, .int .u64 0]) (t := 50) ?hr ?_; (case hd => rfl); (case hg => rfl); (case hr => first | (go_simp; done) | (go_simp; rfl)); intro gb447 hg w136 hbox hb; have n0_ := ak (blk_below (g := gb389) (o := .cells #[.int .i64 a0_0, .int .u64 a0_1] 50 (0, 0)) (bx BK389.out) hb); have n1_ := ak (blk_below (g := gb390) (o := .cells #[.int .i64 a1_0, .int .u64 a1_1] 50 (0, 0)) (bx BK390.out) hb); have n2_ := ak (blk_below (g := gb396) (o := .cells #[.int .i64 t394, .int .u64 t395] 50 (0, 0)) (bx BK396.out) hb); have n3_ := ak (below_step (by repeat (first | (with_reducible first | exact HB.out | apply below_alloc | apply pw_below_drewN | apply below_drew1 | refine below_set ?_ GE389.out | refine below_set ?_ GE390.out | refine below_set ?_ GE396.out) | exact HB.out)) hb); have n4_ := ak (hbox); have n5_ := ak ((by rw [hg]; exact (below_size (by repeat (first | (with_reducible first | exact HB.out | apply below_alloc | apply pw_below_drewN | apply below_drew1 | refine below_set ?_ GE389.out | refine below_set ?_ GE390.out | refine below_set ?_ GE396.out) | exact HB.out))) : w.heap.size ≤ gb447)); have n6_ := ak ((by rw [hg]; exact (below_size (by repeat (first | (with_reducible first | exact HB.out | apply below_alloc | apply pw_below_drewN | apply below_drew1 | refine below_set ?_ GE389.out | refine below_set ?_ GE390.out | refine below_set ?_ GE396.out) | exact HB.out))) : w.heap.size ≤ gb447)); have n7_ := ak ((by rw [hg]; exact Nat.ne_of_lt (blk_lt (g := gb389) (o := .cells #[.int .i64 a0_0, .int .u64 a0_1] 50 (0, 0)) (bx BK389.out)) : gb389 ≠ gb447)); have n8_ := ak ((by rw [hg]; exact Nat.ne_of_gt (blk_lt (g := gb389) (o := .cells #[.int .i64 a0_0, .int .u64 a0_1] 50 (0, 0)) (bx BK389.out)) : gb447 ≠ gb389)); have n9_ := ak ((by rw [hg]; exact Nat.ne_of_lt (blk_lt (g := gb390) (o := .cells #[.int .i64 a1_0, .int .u64 a1_1] 50 (0, 0)) (bx BK390.out)) : gb390 ≠ gb447)); have n10_ := ak ((by rw [hg]; exact Nat.ne_of_gt (blk_lt (g := gb390) (o := .cells #[.int .i64 a1_0, .int .u64 a1_1] 50 (0, 0)) (bx BK390.out)) : gb447 ≠ gb390)); have n11_ := ak ((by rw [hg]; exact Nat.ne_of_lt (blk_lt (g := gb396) (o := .cells #[.int .i64 t394, .int .u64 t395] 50 (0, 0)) (bx BK396.out)) : gb396 ≠ gb447)); have n12_ := ak ((by rw [hg]; exact Nat.ne_of_gt (blk_lt (g := gb396) (o := .cells #[.int .i64 t394, .int .u64 t395] 50 (0, 0)) (bx BK396.out)) : gb447 ≠ gb396)); clear BK389; clear BK390; clear BK396; clear HB; have BK389 := n0_; have BK390 := n1_; have BK396 := n2_; have HB := n3_; have BK447 := n4_; have GW447 := n5_; have GE447 := n6_; have NB389_447 := n7_; have NB447_389 := n8_; have NB390_447 := n9_; have NB447_390 := n10_; have NB396_447 := n11_; have NB447_396 := n12_; clear n0_ n1_ n2_ n3_ n4_ n5_ n6_ n7_ n8_ n9_ n10_ n11_ n12_; clear hb hbox hg; have hnb137 := NB447_389.out; have hnc137 := NB389_447.out; have hnb138 := NB447_390.out; have hnc138 := NB390_447.out; have hnb139 := NB447_396.out; have hnc139 := NB396_447.out; have hcz140_0 : w136.cell? ⟨gb447, 0, none⟩ = some (.int .i64 0) := (blk_cell BK447.out 0).trans rfl; have hcz140_1 : w136.cell? ⟨gb447, 1, none⟩ = some (.int .u64 0) := (blk_cell BK447.out 1).trans rfl; have hfz140_0 := blk_frozen BK447.out 0; have hfz140_1 := blk_frozen BK447.out 1))
             have n0_ : Aside0 (((w136.setCell ⟨gb447, 0, none⟩ (.int .i64 t444)).setCell ⟨gb447, 1, none⟩ (.int .u64 t445)).heap[gb389]? = some (.cells #[.int .i64 a0_0, .int .u64 a0_1] 50 (0, 0))) := ⟨by (with_reducible repeat (first | refine blk_drewN ?_ _ | refine blk_drew ?_ | refine blk_alloc ?_ _)); refine blk_far ?_ NB389_447.out _; (with_reducible repeat (first | refine blk_drewN ?_ _ | refine blk_drew ?_ | refine blk_alloc ?_ _)); refine blk_far ?_ NB389_447.out _; exact bx BK389.out⟩
             have n1_ : Aside0 (((w136.setCell ⟨gb447, 0, none⟩ (.int .i64 t444)).setCell ⟨gb447, 1, none⟩ (.int .u64 t445)).heap[gb390]? = some (.cells #[.int .i64 a1_0, .int .u64 a1_1] 50 (0, 0))) := ⟨by (with_reducible repeat (first | refine blk_drewN ?_ _ | refine blk_drew ?_ | refine blk_alloc ?_ _)); refine blk_far ?_ NB390_447.out _; (with_reducible repeat (first | refine blk_drewN ?_ _ | refine blk_drew ?_ | refine blk_alloc ?_ _)); refine blk_far ?_ NB390_447.out _; exact bx BK390.out⟩
             have n2_ : Aside0 (((w136.setCell ⟨gb447, 0, none⟩ (.int .i64 t444)).setCell ⟨gb447, 1, none⟩ (.int .u64 t445)).heap[gb396]? = some (.cells #[.int .i64 t394, .int .u64 t395] 50 (0, 0))) := ⟨by (with_reducible repeat (first | refine blk_drewN ?_ _ | refine blk_drew ?_ | refine blk_alloc ?_ _)); refine blk_far ?_ NB396_447.out _; (with_reducible repeat (first | refine blk_drewN ?_ _ | refine blk_drew ?_ | refine blk_alloc ?_ _)); refine blk_far ?_ NB396_447.out _; exact bx BK396.out⟩
             have n3_ : Aside0 (((w136.setCell ⟨gb447, 0, none⟩ (.int .i64 t444)).setCell ⟨gb447, 1, none⟩ (.int .u64 t445)).heap[gb447]? = some (.cells #[.int .i64 t444, .int .u64 t445] 50 (0, 0))) := ⟨by (with_reducible repeat (first | refine blk_drewN ?_ _ | refine blk_drew ?_ | refine blk_alloc ?_ _)); refine blk_put (cs := #[.int .i64 t444, .int .u64 0]) ?_ 1 _ rfl; (with_reducible repeat (first | refine blk_drewN ?_ _ | refine blk_drew ?_ | refine blk_alloc ?_ _)); refine blk_put (cs := #[.int .i64 0, .int .u64 0]) ?_ 0 _ rfl; exact bx BK447.out⟩
             have n4_ : Aside0 (Below w.heap.size w ((w136.setCell ⟨gb447, 0, none⟩ (.int .i64 t444)).setCell ⟨gb447, 1, none⟩ (.int .u64 t445))) := ⟨by repeat (first | (with_reducible first | exact HB.out | apply below_alloc | apply pw_below_drewN | apply below_drew1 | refine below_set ?_ GE389.out | refine below_set ?_ GE390.out | refine below_set ?_ GE396.out | refine below_set ?_ GE447.out) | exact HB.out)⟩
             (try clear BK389)
             (try clear BK390)
             (try clear BK396)
             (try clear BK447)
             (try clear HB)
             generalize ((w136.setCell ⟨gb447, 0, none⟩ (.int .i64 t444)).setCell ⟨gb447, 1, none⟩ (.int .u64 t445)) = w141 at n0_ n1_ n2_ n3_ n4_ ⊢
             have BK389 := n0_
             have BK390 := n1_
             have BK396 := n2_
             have BK447 := n3_
             have HB := n4_
             clear n0_ n1_ n2_ n3_ n4_
             have n0_ := ak (blk_drew BK389.out)
             have n1_ := ak (blk_drew BK390.out)
             have n2_ := ak (blk_drew BK396.out)
             have n3_ := ak (blk_drew BK447.out)
             have n4_ := ak (below_drew1 HB.out)
             clear BK389
             clear BK390
             clear BK396
             clear BK447
             clear HB
             have BK389 := n0_
             have BK390 := n1_
             have BK396 := n2_
             have BK447 := n3_
             have HB := n4_
             clear n0_ n1_ n2_ n3_ n4_
             refine start_ (n := 7) (S := fun w' => w'.cell? ⟨gb389, 0, none⟩ = some (.int .i64 a0_0) ∧ w'.cell? ⟨gb389, 1, none⟩ = some (.int .u64 a0_1) ∧ w'.cell? ⟨gb390, 0, none⟩ = some (.int .i64 a1_0) ∧ w'.cell? ⟨gb390, 1, none⟩ = some (.int .u64 a1_1)) (ds := []) #[false, false, false, false, false, false, false] (by kernel_rfl) rfl rfl ⟨(blk_cell BK389.out 0).trans rfl, (blk_cell BK389.out 1).trans rfl, (blk_cell BK390.out 0).trans rfl, (blk_cell BK390.out 1).trans rfl⟩ (fun hHeld => ?_)
             generalize w141.drew = w142 at BK389 BK390 BK396 BK447 HB hHeld ⊢
             refine take_ (i := 0) (N := some 85) (v := ?_) (a' := ?_) #[true, false, false, false, false, false, false] rfl rfl (by kernel_rfl) (fun _ _ _ h => h) (Or.inl ⟨by rfl, ?_⟩) hHeld ?_ ?_
             rotate_left
             ·
              rintro w' ⟨s0, s1, s2, s3⟩
              go_simp
              with_reducible rfl
             rotate_left
             ·
              simp only [Act.put, List.setIfInBounds_toArray, List.set_cons_zero, List.set_cons_succ, i64_w, i32_w]
              rfl
             refine take_ (i := 2) (N := some 87) (v := ?_) (a' := ?_) #[true, false, true, false, false, false, false] rfl rfl (by kernel_rfl) (fun _ _ _ h => h) (Or.inl ⟨by rfl, ?_⟩) hHeld ?_ ?_
             rotate_left
             ·
              rintro w' ⟨s0, s1, s2, s3⟩
              go_simp
              with_reducible rfl
             rotate_left
             ·
              simp only [Act.put, List.setIfInBounds_toArray, List.set_cons_zero, List.set_cons_succ, i64_w, i32_w]
              rfl
             refine join_ (σ := Value × Value × Value × Nat) 1 #[true, true, true, true, true, true, false] (fun s_ => [(86, .agg #[.bool t448, s_.1]), (88, .agg #[.bool t452, s_.2.1]), (89, .agg #[.bool t456, s_.2.2.1]), (14, .pointer (some ⟨s_.2.2.2, 0, none⟩))]) (fun s_ w' => (w'.cell? ⟨gb389, 0, none⟩ = some (.int .i64 a0_0) ∧ w'.cell? ⟨gb389, 1, none⟩ = some (.int .u64 a0_1) ∧ w'.cell? ⟨gb390, 0, none⟩ = some (.int .i64 a1_0) ∧ w'.cell? ⟨gb390, 1, none⟩ = some (.int .u64 a1_1)) ∧ (Kd.R (Kd.int .u64) 22 w' w.heap.size (fun k_ => some k_ ≠ (s_.2.1 : Value).ownBlock ∧ some k_ ≠ (s_.2.2.1 : Value).ownBlock) s_.1 t449) ∧ (Kd.R (Kd.int .u64) 22 w' w.heap.size (fun k_ => some k_ ≠ (s_.1 : Value).ownBlock ∧ some k_ ≠ (s_.2.2.1 : Value).ownBlock) s_.2.1 t453) ∧ (Kd.R (Kd.int .u64) 22 w' w.heap.size (fun k_ => some k_ ≠ (s_.1 : Value).ownBlock ∧ some k_ ≠ (s_.2.1 : Value).ownBlock) s_.2.2.1 t457) ∧ (w'.heap[gb389]? = some (.cells #[.int .i64 a0_0, .int .u64 a0_1] 50 (0, 0))) ∧ (w'.heap[gb390]? = some (.cells #[.int .i64 a1_0, .int .u64 a1_1] 50 (0, 0))) ∧ (w'.heap[gb396]? = some (.cells #[.int .i64 t394, .int .u64 t395] 50 (0, 0))) ∧ (w'.heap[gb447]? = some (.cells #[.int .i64 t444, .int .u64 t445] 50 (0, 0))) ∧ (w'.heap[s_.2.2.2]? = some (.cells #[.bool false, .slice none 0 0] 31 (0, 0))) ∧ (w.heap.size ≤ s_.2.2.2) ∧ (w.heap.size ≤ s_.2.2.2) ∧ (gb389 ≠ s_.2.2.2) ∧ (s_.2.2.2 ≠ gb389) ∧ (gb390 ≠ s_.2.2.2) ∧ (s_.2.2.2 ≠ gb390) ∧ (gb396 ≠ s_.2.2.2) ∧ (s_.2.2.2 ≠ gb396) ∧ (gb447 ≠ s_.2.2.2) ∧ (s_.2.2.2 ≠ gb447) ∧ (Below w.heap.size w w')) ?_ ?_
             rotate_left
             ·
              intro hCont
              refine two_ (i := 1) (j := 5) (Ni := some 86) (Nj := some 14) #[true, true, true, false, false, false, false] #[true, false, true, false, false, true, false] rfl rfl rfl rfl (by kernel_rfl) (by decide) (by decide) (fun K hK => ?_) (fun K hK => ?_)
              ·
               skip
               refine goes_ Try.func23 (by kernel_rfl) rfl #[.agg #[.int .i64 a0_0, .int .u64 a0_1]] (by rfl) rfl rfl (by (try simp only [List.map_toArray, List.map_cons, List.map_nil]); first | done | rfl | (simp only [List.length_drop, List.length_take]; rfl)) ?_
               with_reducible refine (compasslaw01_wide.calls kj64 a0_0 a0_1 t448 t449 _ A88.out).mono ?_
               rintro e w143 ⟨v450, rfl, ho0, hb⟩
               refine ⟨_, rfl, ?_⟩
               have n0_ := ak (Kd.R_lower ho0 (below_size (by repeat (first | (with_reducible first | exact HB.out | apply below_alloc | apply pw_below_drewN | apply below_drew1 | refine below_set ?_ GE389.out | refine below_set ?_ GE390.out | refine below_set ?_ GE396.out | refine below_set ?_ GE447.out) | exact HB.out))))
               have n1_ := ak (blk_below (g := gb389) (o := .cells #[.int .i64 a0_0, .int .u64 a0_1] 50 (0, 0)) (bx BK389.out) hb)
               have n2_ := ak (blk_below (g := gb390) (o := .cells #[.int .i64 a1_0, .int .u64 a1_1] 50 (0, 0)) (bx BK390.out) hb)
               have n3_ := ak (blk_below (g := gb396) (o := .cells #[.int .i64 t394, .int .u64 t395] 50 (0, 0)) (bx BK396.out) hb)
               have n4_ := ak (blk_below (g := gb447) (o := .cells #[.int .i64 t444, .int .u64 t445] 50 (0, 0)) (bx BK447.out) hb)
               have n5_ := ak (below_step (by repeat (first | (with_reducible first | exact HB.out | apply below_alloc | apply pw_below_drewN | apply below_drew1 | refine below_set ?_ GE389.out | refine below_set ?_ GE390.out | refine below_set ?_ GE396.out | refine below_set ?_ GE447.out) | exact HB.out)) hb)
               clear BK389
               clear BK390
               clear BK396
               clear BK447
               clear HB
               have HO451 := n0_
               have BK389 := n1_
               have BK390 := n2_
               have BK396 := n3_
               have BK447 := n4_
               have HB := n5_
               clear n0_ n1_ n2_ n3_ n4_ n5_
               (try clear hb)
               (try clear hb2)
               (try clear hk)
               (try clear hi)
               (try clear ho0)
               refine hK.out _ _ ⟨(blk_cell BK389.out 0).trans rfl, (blk_cell BK389.out 1).trans rfl, (blk_cell BK390.out 0).trans rfl, (blk_cell BK390.out 1).trans rfl⟩ (fun hHeld => ?_)
               clear hK K
               refine norm_ (a' := ?_) ?_ ?_
               rotate_left
               ·
                show Act.put _ (some 86) _ = _
                simp only [Act.put, List.setIfInBounds_toArray, List.set_cons_zero, List.set_cons_succ, i64_w, i32_w]
                rfl
               refine two_ (i := 3) (j := 5) (Ni := some 88) (Nj := some 14) #[true, true, true, true, false, false, false] #[true, true, true, false, false, true, false] rfl rfl rfl rfl (by kernel_rfl) (by decide) (by decide) (fun K hK => ?_) (fun K hK => ?_)
               ·
                skip
                refine goes_ Try.func23 (by kernel_rfl) rfl #[.agg #[.int .i64 a1_0, .int .u64 a1_1]] (by rfl) rfl rfl (by (try simp only [List.map_toArray, List.map_cons, List.map_nil]); first | done | rfl | (simp only [List.length_drop, List.length_take]; rfl)) ?_
                with_reducible refine (compasslaw01_wide.calls kj64 a1_0 a1_1 t452 t453 _ A89.out).mono ?_
                rintro e w144 ⟨v454, rfl, ho0, hb⟩
                refine ⟨_, rfl, ?_⟩
                have n0_ := ak (Kd.R_elder' (rx HO451.out) (Kd.R_base ho0) hb)
                have n1_ := ak (Kd.R_lower (Kd.R_new' ho0 (Kd.R_lt (rx HO451.out))) (below_size (by repeat (first | (with_reducible first | exact HB.out | apply below_alloc | apply pw_below_drewN | apply below_drew1 | refine below_set ?_ GE389.out | refine below_set ?_ GE390.out | refine below_set ?_ GE396.out | refine below_set ?_ GE447.out) | exact HB.out))))
                have n2_ := ak (blk_below (g := gb389) (o := .cells #[.int .i64 a0_0, .int .u64 a0_1] 50 (0, 0)) (bx BK389.out) hb)
                have n3_ := ak (blk_below (g := gb390) (o := .cells #[.int .i64 a1_0, .int .u64 a1_1] 50 (0, 0)) (bx BK390.out) hb)
                have n4_ := ak (blk_below (g := gb396) (o := .cells #[.int .i64 t394, .int .u64 t395] 50 (0, 0)) (bx BK396.out) hb)
                have n5_ := ak (blk_below (g := gb447) (o := .cells #[.int .i64 t444, .int .u64 t445] 50 (0, 0)) (bx BK447.out) hb)
                have n6_ := ak (below_step (by repeat (first | (with_reducible first | exact HB.out | apply below_alloc | apply pw_below_drewN | apply below_drew1 | refine below_set ?_ GE389.out | refine below_set ?_ GE390.out | refine below_set ?_ GE396.out | refine below_set ?_ GE447.out) | exact HB.out)) hb)
                clear HO451
                clear BK389
                clear BK390
                clear BK396
                clear BK447
                clear HB
                have HO451 := n0_
                have HO455 := n1_
                have BK389 := n2_
                have BK390 := n3_
                have BK396 := n4_
                have BK447 := n5_
                have HB := n6_
                clear n0_ n1_ n2_ n3_ n4_ n5_ n6_
                (try clear hb)
                (try clear hb2)
                (try clear hk)
                (try clear hi)
                (try clear ho0)
                obtain ⟨Ao145, co145, eo145⟩ := Kd.R_slice HO451.out
                (first | subst eo145 | (injection eo145 with f1_ f2_ f3_; have f4_ := f1_.symm; have f5_ := f3_.symm; clear f1_ f2_ f3_; subst f4_; subst f5_))
                obtain ⟨Ao146, co146, eo146⟩ := Kd.R_slice HO455.out
                (first | subst eo146 | (injection eo146 with f1_ f2_ f3_; have f4_ := f1_.symm; have f5_ := f3_.symm; clear f1_ f2_ f3_; subst f4_; subst f5_))
                refine hK.out _ _ ⟨(blk_cell BK389.out 0).trans rfl, (blk_cell BK389.out 1).trans rfl, (blk_cell BK390.out 0).trans rfl, (blk_cell BK390.out 1).trans rfl⟩ (fun hHeld => ?_)
                clear hK K
                refine norm_ (a' := ?_) ?_ ?_
                rotate_left
                ·
                 show Act.put _ (some 88) _ = _
                 simp only [Act.put, List.setIfInBounds_toArray, List.set_cons_zero, List.set_cons_succ, i64_w, i32_w]
                 rfl
                refine two_ (i := 4) (j := 5) (Ni := some 89) (Nj := some 14) #[true, true, true, true, true, false, false] #[true, true, true, true, false, true, false] rfl rfl rfl rfl (by kernel_rfl) (by decide) (by decide) (fun K hK => ?_) (fun K hK => ?_)
                ·
                 skip
                 refine goes_ Try.func13 (by kernel_rfl) rfl #[.agg #[.bool t448, .slice Ao145 t449.length co145], .agg #[.bool t452, .slice Ao146 t453.length co146]] (by rfl) rfl rfl (by (try simp only [List.map_toArray, List.map_cons, List.map_nil]); first | done | rfl | (simp only [List.length_drop, List.length_take]; rfl)) ?_
                 with_reducible refine (compassref01_Plus.calls kj64 t448 _ _ t449 t452 _ _ t453 t456 t457 _ ?side1 ?side2 ?side3 ?side4 A90.out).mono ?_
                 (case side1 => repeat (first | exact (Kd.R_reads' HO451.out).2.2 | (with_reducible refine Kd.C_alloc ?_ _) | (with_reducible refine Kd.C_drewN ?_ _) | (with_reducible refine Kd.C_drew ?_)))
                 (case side2 => exact (Kd.R_reads' HO451.out).2.1)
                 (case side3 => repeat (first | exact (Kd.R_reads' HO455.out).2.2 | (with_reducible refine Kd.C_alloc ?_ _) | (with_reducible refine Kd.C_drewN ?_ _) | (with_reducible refine Kd.C_drew ?_)))
                 (case side4 => exact (Kd.R_reads' HO455.out).2.1)
                 rintro e w147 ⟨v458, rfl, ho0, hb⟩
                 refine ⟨_, rfl, ?_⟩
                 have n0_ := ak (Kd.R_elder' (rx HO451.out) (Kd.R_base ho0) hb)
                 have n1_ := ak (Kd.R_elder' (rx HO455.out) (Kd.R_base ho0) hb)
                 have n2_ := ak (Kd.R_lower (Kd.R_new' (Kd.R_new' ho0 (Kd.R_lt (rx HO451.out))) (Kd.R_lt (rx HO455.out))) (below_size (by repeat (first | (with_reducible first | exact HB.out | apply below_alloc | apply pw_below_drewN | apply below_drew1 | refine below_set ?_ GE389.out | refine below_set ?_ GE390.out | refine below_set ?_ GE396.out | refine below_set ?_ GE447.out) | exact HB.out))))
                 have n3_ := ak (blk_below (g := gb389) (o := .cells #[.int .i64 a0_0, .int .u64 a0_1] 50 (0, 0)) (bx BK389.out) hb)
                 have n4_ := ak (blk_below (g := gb390) (o := .cells #[.int .i64 a1_0, .int .u64 a1_1] 50 (0, 0)) (bx BK390.out) hb)
                 have n5_ := ak (blk_below (g := gb396) (o := .cells #[.int .i64 t394, .int .u64 t395] 50 (0, 0)) (bx BK396.out) hb)
                 have n6_ := ak (blk_below (g := gb447) (o := .cells #[.int .i64 t444, .int .u64 t445] 50 (0, 0)) (bx BK447.out) hb)
                 have n7_ := ak (below_step (by repeat (first | (with_reducible first | exact HB.out | apply below_alloc | apply pw_below_drewN | apply below_drew1 | refine below_set ?_ GE389.out | refine below_set ?_ GE390.out | refine below_set ?_ GE396.out | refine below_set ?_ GE447.out) | exact HB.out)) hb)
                 clear HO451
                 clear HO455
                 clear BK389
                 clear BK390
                 clear BK396
                 clear BK447
                 clear HB
                 have HO451 := n0_
                 have HO455 := n1_
                 have HO459 := n2_
                 have BK389 := n3_
                 have BK390 := n4_
                 have BK396 := n5_
                 have BK447 := n6_
                 have HB := n7_
                 clear n0_ n1_ n2_ n3_ n4_ n5_ n6_ n7_
                 (try clear hb)
                 (try clear hb2)
                 (try clear hk)
                 (try clear hi)
                 (try clear ho0)
                 refine hK.out _ _ ⟨(blk_cell BK389.out 0).trans rfl, (blk_cell BK389.out 1).trans rfl, (blk_cell BK390.out 0).trans rfl, (blk_cell BK390.out 1).trans rfl⟩ (fun hHeld => ?_)
                 clear hK K
                 refine norm_ (a' := ?_) ?_ ?_
                 rotate_left
                 ·
                  show Act.put _ (some 89) _ = _
                  simp only [Act.put, List.setIfInBounds_toArray, List.set_cons_zero, List.set_cons_succ, i64_w, i32_w]
                  rfl
                 refine one_ (i := 5) (N := some 14) #[true, true, true, true, true, true, false] rfl rfl (by kernel_rfl) (by decide) (fun K hK => ?_)
                 refine box_step ?hg (N := 14) ?hd (cs := #[.bool false, .slice none 0 0]) (t := 31) ?hr ?_; (case hd => rfl); (case hg => rfl); (case hr => first | (go_simp; done) | (go_simp; rfl))
                 intro gb460 hg w148 hbox hb
                 have n0_ := ak (Kd.R_below (rx HO451.out) hb)
                 have n1_ := ak (Kd.R_below (rx HO455.out) hb)
                 have n2_ := ak (Kd.R_below (rx HO459.out) hb)
                 have n3_ := ak (blk_below (g := gb389) (o := .cells #[.int .i64 a0_0, .int .u64 a0_1] 50 (0, 0)) (bx BK389.out) hb)
                 have n4_ := ak (blk_below (g := gb390) (o := .cells #[.int .i64 a1_0, .int .u64 a1_1] 50 (0, 0)) (bx BK390.out) hb)
                 have n5_ := ak (blk_below (g := gb396) (o := .cells #[.int .i64 t394, .int .u64 t395] 50 (0, 0)) (bx BK396.out) hb)
                 have n6_ := ak (blk_below (g := gb447) (o := .cells #[.int .i64 t444, .int .u64 t445] 50 (0, 0)) (bx BK447.out) hb)
                 have n7_ := ak (below_step (by repeat (first | (with_reducible first | exact HB.out | apply below_alloc | apply pw_below_drewN | apply below_drew1 | refine below_set ?_ GE389.out | refine below_set ?_ GE390.out | refine below_set ?_ GE396.out | refine below_set ?_ GE447.out) | exact HB.out)) hb)
                 have n8_ := ak (hbox)
                 have n9_ := ak ((by rw [hg]; exact (below_size (by repeat (first | (with_reducible first | exact HB.out | apply below_alloc | apply pw_below_drewN | apply below_drew1 | refine below_set ?_ GE389.out | refine below_set ?_ GE390.out | refine below_set ?_ GE396.out | refine below_set ?_ GE447.out) | exact HB.out))) : w.heap.size ≤ gb460))
                 have n10_ := ak ((by rw [hg]; exact (below_size (by repeat (first | (with_reducible first | exact HB.out | apply below_alloc | apply pw_below_drewN | apply below_drew1 | refine below_set ?_ GE389.out | refine below_set ?_ GE390.out | refine below_set ?_ GE396.out | refine below_set ?_ GE447.out) | exact HB.out))) : w.heap.size ≤ gb460))
                 have n11_ := ak ((by rw [hg]; exact Nat.ne_of_lt (blk_lt (g := gb389) (o := .cells #[.int .i64 a0_0, .int .u64 a0_1] 50 (0, 0)) (bx BK389.out)) : gb389 ≠ gb460))
                 have n12_ := ak ((by rw [hg]; exact Nat.ne_of_gt (blk_lt (g := gb389) (o := .cells #[.int .i64 a0_0, .int .u64 a0_1] 50 (0, 0)) (bx BK389.out)) : gb460 ≠ gb389))
                 have n13_ := ak ((by rw [hg]; exact Nat.ne_of_lt (blk_lt (g := gb390) (o := .cells #[.int .i64 a1_0, .int .u64 a1_1] 50 (0, 0)) (bx BK390.out)) : gb390 ≠ gb460))
                 have n14_ := ak ((by rw [hg]; exact Nat.ne_of_gt (blk_lt (g := gb390) (o := .cells #[.int .i64 a1_0, .int .u64 a1_1] 50 (0, 0)) (bx BK390.out)) : gb460 ≠ gb390))
                 have n15_ := ak ((by rw [hg]; exact Nat.ne_of_lt (blk_lt (g := gb396) (o := .cells #[.int .i64 t394, .int .u64 t395] 50 (0, 0)) (bx BK396.out)) : gb396 ≠ gb460))
                 have n16_ := ak ((by rw [hg]; exact Nat.ne_of_gt (blk_lt (g := gb396) (o := .cells #[.int .i64 t394, .int .u64 t395] 50 (0, 0)) (bx BK396.out)) : gb460 ≠ gb396))
                 have n17_ := ak ((by rw [hg]; exact Nat.ne_of_lt (blk_lt (g := gb447) (o := .cells #[.int .i64 t444, .int .u64 t445] 50 (0, 0)) (bx BK447.out)) : gb447 ≠ gb460))
                 have n18_ := ak ((by rw [hg]; exact Nat.ne_of_gt (blk_lt (g := gb447) (o := .cells #[.int .i64 t444, .int .u64 t445] 50 (0, 0)) (bx BK447.out)) : gb460 ≠ gb447))
                 clear HO451
                 clear HO455
                 clear HO459
                 clear BK389
                 clear BK390
                 clear BK396
                 clear BK447
                 clear HB
                 have HO451 := n0_
                 have HO455 := n1_
                 have HO459 := n2_
                 have BK389 := n3_
                 have BK390 := n4_
                 have BK396 := n5_
                 have BK447 := n6_
                 have HB := n7_
                 have BK460 := n8_
                 have GW460 := n9_
                 have GE460 := n10_
                 have NB389_460 := n11_
                 have NB460_389 := n12_
                 have NB390_460 := n13_
                 have NB460_390 := n14_
                 have NB396_460 := n15_
                 have NB460_396 := n16_
                 have NB447_460 := n17_
                 have NB460_447 := n18_
                 clear n0_ n1_ n2_ n3_ n4_ n5_ n6_ n7_ n8_ n9_ n10_ n11_ n12_ n13_ n14_ n15_ n16_ n17_ n18_
                 clear hb hbox hg
                 refine hK.out _ _ ⟨(blk_cell BK389.out 0).trans rfl, (blk_cell BK389.out 1).trans rfl, (blk_cell BK390.out 0).trans rfl, (blk_cell BK390.out 1).trans rfl⟩ (fun hHeld => ?_)
                 clear hK K
                 refine norm_ (a' := ?_) ?_ ?_
                 rotate_left
                 ·
                  show Act.put _ (some 14) _ = _
                  simp only [Act.put, List.setIfInBounds_toArray, List.set_cons_zero, List.set_cons_succ, i64_w, i32_w]
                  rfl
                 exact norm_ (by simp only [putAll, Act.put, List.setIfInBounds_toArray, List.set_cons_zero, List.set_cons_succ]) (hCont (.slice Ao145 t449.length co145, .slice Ao146 t453.length co146, v458, gb460) _ ⟨hHeld, (by (with_reducible repeat (first | apply Kd.R_alloc | apply Kd.R_drewN | apply Kd.R_drew)); exact Kd.R_mono HO451.out (fun _ hk => ⟨hk.1.2, hk.2⟩)), (by (with_reducible repeat (first | apply Kd.R_alloc | apply Kd.R_drewN | apply Kd.R_drew)); exact Kd.R_mono HO455.out (fun _ hk => ⟨hk.1.2, hk.2⟩)), (by (with_reducible repeat (first | apply Kd.R_alloc | apply Kd.R_drewN | apply Kd.R_drew)); exact Kd.R_mono HO459.out (fun _ hk => ⟨hk.1.2, hk.2⟩)), (bx BK389.out), (bx BK390.out), (bx BK396.out), (bx BK447.out), (bx BK460.out), GW460.out, GE460.out, NB389_460.out, NB460_389.out, NB390_460.out, NB460_390.out, NB396_460.out, NB460_396.out, NB447_460.out, NB460_447.out, (by repeat (first | (with_reducible first | exact HB.out | apply below_alloc | apply pw_below_drewN | apply below_drew1 | refine below_set ?_ GE389.out | refine below_set ?_ GE390.out | refine below_set ?_ GE396.out | refine below_set ?_ GE447.out | refine below_set ?_ GE460.out) | exact HB.out))⟩)
                ·
                 skip
                 refine box_step ?hg (N := 14) ?hd (cs := #[.bool false, .slice none 0 0]) (t := 31) ?hr ?_; (case hd => rfl); (case hg => rfl); (case hr => first | (go_simp; done) | (go_simp; rfl))
                 intro gb460 hg w145 hbox hb
                 have n0_ := ak (Kd.R_below (rx HO451.out) hb)
                 have n1_ := ak (Kd.R_below (rx HO455.out) hb)
                 have n2_ := ak (blk_below (g := gb389) (o := .cells #[.int .i64 a0_0, .int .u64 a0_1] 50 (0, 0)) (bx BK389.out) hb)
                 have n3_ := ak (blk_below (g := gb390) (o := .cells #[.int .i64 a1_0, .int .u64 a1_1] 50 (0, 0)) (bx BK390.out) hb)
                 have n4_ := ak (blk_below (g := gb396) (o := .cells #[.int .i64 t394, .int .u64 t395] 50 (0, 0)) (bx BK396.out) hb)
                 have n5_ := ak (blk_below (g := gb447) (o := .cells #[.int .i64 t444, .int .u64 t445] 50 (0, 0)) (bx BK447.out) hb)
                 have n6_ := ak (below_step (by repeat (first | (with_reducible first | exact HB.out | apply below_alloc | apply pw_below_drewN | apply below_drew1 | refine below_set ?_ GE389.out | refine below_set ?_ GE390.out | refine below_set ?_ GE396.out | refine below_set ?_ GE447.out) | exact HB.out)) hb)
                 have n7_ := ak (hbox)
                 have n8_ := ak ((by rw [hg]; exact (below_size (by repeat (first | (with_reducible first | exact HB.out | apply below_alloc | apply pw_below_drewN | apply below_drew1 | refine below_set ?_ GE389.out | refine below_set ?_ GE390.out | refine below_set ?_ GE396.out | refine below_set ?_ GE447.out) | exact HB.out))) : w.heap.size ≤ gb460))
                 have n9_ := ak ((by rw [hg]; exact (below_size (by repeat (first | (with_reducible first | exact HB.out | apply below_alloc | apply pw_below_drewN | apply below_drew1 | refine below_set ?_ GE389.out | refine below_set ?_ GE390.out | refine below_set ?_ GE396.out | refine below_set ?_ GE447.out) | exact HB.out))) : w.heap.size ≤ gb460))
                 have n10_ := ak ((by rw [hg]; exact Nat.ne_of_lt (blk_lt (g := gb389) (o := .cells #[.int .i64 a0_0, .int .u64 a0_1] 50 (0, 0)) (bx BK389.out)) : gb389 ≠ gb460))
                 have n11_ := ak ((by rw [hg]; exact Nat.ne_of_gt (blk_lt (g := gb389) (o := .cells #[.int .i64 a0_0, .int .u64 a0_1] 50 (0, 0)) (bx BK389.out)) : gb460 ≠ gb389))
                 have n12_ := ak ((by rw [hg]; exact Nat.ne_of_lt (blk_lt (g := gb390) (o := .cells #[.int .i64 a1_0, .int .u64 a1_1] 50 (0, 0)) (bx BK390.out)) : gb390 ≠ gb460))
                 have n13_ := ak ((by rw [hg]; exact Nat.ne_of_gt (blk_lt (g := gb390) (o := .cells #[.int .i64 a1_0, .int .u64 a1_1] 50 (0, 0)) (bx BK390.out)) : gb460 ≠ gb390))
                 have n14_ := ak ((by rw [hg]; exact Nat.ne_of_lt (blk_lt (g := gb396) (o := .cells #[.int .i64 t394, .int .u64 t395] 50 (0, 0)) (bx BK396.out)) : gb396 ≠ gb460))
                 have n15_ := ak ((by rw [hg]; exact Nat.ne_of_gt (blk_lt (g := gb396) (o := .cells #[.int .i64 t394, .int .u64 t395] 50 (0, 0)) (bx BK396.out)) : gb460 ≠ gb396))
                 have n16_ := ak ((by rw [hg]; exact Nat.ne_of_lt (blk_lt (g := gb447) (o := .cells #[.int .i64 t444, .int .u64 t445] 50 (0, 0)) (bx BK447.out)) : gb447 ≠ gb460))
                 have n17_ := ak ((by rw [hg]; exact Nat.ne_of_gt (blk_lt (g := gb447) (o := .cells #[.int .i64 t444, .int .u64 t445] 50 (0, 0)) (bx BK447.out)) : gb460 ≠ gb447))
                 clear HO451
                 clear HO455
                 clear BK389
                 clear BK390
                 clear BK396
                 clear BK447
                 clear HB
                 have HO451 := n0_
                 have HO455 := n1_
                 have BK389 := n2_
                 have BK390 := n3_
                 have BK396 := n4_
                 have BK447 := n5_
                 have HB := n6_
                 have BK460 := n7_
                 have GW460 := n8_
                 have GE460 := n9_
                 have NB389_460 := n10_
                 have NB460_389 := n11_
                 have NB390_460 := n12_
                 have NB460_390 := n13_
                 have NB396_460 := n14_
                 have NB460_396 := n15_
                 have NB447_460 := n16_
                 have NB460_447 := n17_
                 clear n0_ n1_ n2_ n3_ n4_ n5_ n6_ n7_ n8_ n9_ n10_ n11_ n12_ n13_ n14_ n15_ n16_ n17_
                 clear hb hbox hg
                 obtain ⟨Ao146, co146, eo146⟩ := Kd.R_slice HO451.out
                 (first | subst eo146 | (injection eo146 with f1_ f2_ f3_; have f4_ := f1_.symm; have f5_ := f3_.symm; clear f1_ f2_ f3_; subst f4_; subst f5_))
                 obtain ⟨Ao147, co147, eo147⟩ := Kd.R_slice HO455.out
                 (first | subst eo147 | (injection eo147 with f1_ f2_ f3_; have f4_ := f1_.symm; have f5_ := f3_.symm; clear f1_ f2_ f3_; subst f4_; subst f5_))
                 refine hK.out _ _ ⟨(blk_cell BK389.out 0).trans rfl, (blk_cell BK389.out 1).trans rfl, (blk_cell BK390.out 0).trans rfl, (blk_cell BK390.out 1).trans rfl⟩ (fun hHeld => ?_)
                 clear hK K
                 refine norm_ (a' := ?_) ?_ ?_
                 rotate_left
                 ·
                  show Act.put _ (some 14) _ = _
                  simp only [Act.put, List.setIfInBounds_toArray, List.set_cons_zero, List.set_cons_succ, i64_w, i32_w]
                  rfl
                 refine one_ (i := 4) (N := some 89) #[true, true, true, true, true, true, false] rfl rfl (by kernel_rfl) (by decide) (fun K hK => ?_)
                 refine goes_ Try.func13 (by kernel_rfl) rfl #[.agg #[.bool t448, .slice Ao146 t449.length co146], .agg #[.bool t452, .slice Ao147 t453.length co147]] (by rfl) rfl rfl (by (try simp only [List.map_toArray, List.map_cons, List.map_nil]); first | done | rfl | (simp only [List.length_drop, List.length_take]; rfl)) ?_
                 with_reducible refine (compassref01_Plus.calls kj64 t448 _ _ t449 t452 _ _ t453 t456 t457 _ ?side1 ?side2 ?side3 ?side4 A90.out).mono ?_
                 (case side1 => repeat (first | exact (Kd.R_reads' HO451.out).2.2 | (with_reducible refine Kd.C_alloc ?_ _) | (with_reducible refine Kd.C_drewN ?_ _) | (with_reducible refine Kd.C_drew ?_)))
                 (case side2 => exact (Kd.R_reads' HO451.out).2.1)
                 (case side3 => repeat (first | exact (Kd.R_reads' HO455.out).2.2 | (with_reducible refine Kd.C_alloc ?_ _) | (with_reducible refine Kd.C_drewN ?_ _) | (with_reducible refine Kd.C_drew ?_)))
                 (case side4 => exact (Kd.R_reads' HO455.out).2.1)
                 rintro e w148 ⟨v458, rfl, ho0, hb⟩
                 refine ⟨_, rfl, ?_⟩
                 have n0_ := ak (Kd.R_elder' (rx HO451.out) (Kd.R_base ho0) hb)
                 have n1_ := ak (Kd.R_elder' (rx HO455.out) (Kd.R_base ho0) hb)
                 have n2_ := ak (Kd.R_lower (Kd.R_new' (Kd.R_new' ho0 (Kd.R_lt (rx HO451.out))) (Kd.R_lt (rx HO455.out))) (below_size (by repeat (first | (with_reducible first | exact HB.out | apply below_alloc | apply pw_below_drewN | apply below_drew1 | refine below_set ?_ GE389.out | refine below_set ?_ GE390.out | refine below_set ?_ GE396.out | refine below_set ?_ GE447.out | refine below_set ?_ GE460.out) | exact HB.out))))
                 have n3_ := ak (blk_below (g := gb389) (o := .cells #[.int .i64 a0_0, .int .u64 a0_1] 50 (0, 0)) (bx BK389.out) hb)
                 have n4_ := ak (blk_below (g := gb390) (o := .cells #[.int .i64 a1_0, .int .u64 a1_1] 50 (0, 0)) (bx BK390.out) hb)
                 have n5_ := ak (blk_below (g := gb396) (o := .cells #[.int .i64 t394, .int .u64 t395] 50 (0, 0)) (bx BK396.out) hb)
                 have n6_ := ak (blk_below (g := gb447) (o := .cells #[.int .i64 t444, .int .u64 t445] 50 (0, 0)) (bx BK447.out) hb)
                 have n7_ := ak (blk_below (g := gb460) (o := .cells #[.bool false, .slice none 0 0] 31 (0, 0)) (bx BK460.out) hb)
                 have n8_ := ak (below_step (by repeat (first | (with_reducible first | exact HB.out | apply below_alloc | apply pw_below_drewN | apply below_drew1 | refine below_set ?_ GE389.out | refine below_set ?_ GE390.out | refine below_set ?_ GE396.out | refine below_set ?_ GE447.out | refine below_set ?_ GE460.out) | exact HB.out)) hb)
                 clear HO451
                 clear HO455
                 clear BK389
                 clear BK390
                 clear BK396
                 clear BK447
                 clear BK460
                 clear HB
                 have HO451 := n0_
                 have HO455 := n1_
                 have HO459 := n2_
                 have BK389 := n3_
                 have BK390 := n4_
                 have BK396 := n5_
                 have BK447 := n6_
                 have BK460 := n7_
                 have HB := n8_
                 clear n0_ n1_ n2_ n3_ n4_ n5_ n6_ n7_ n8_
                 (try clear hb)
                 (try clear hb2)
                 (try clear hk)
                 (try clear hi)
                 (try clear ho0)
                 refine hK.out _ _ ⟨(blk_cell BK389.out 0).trans rfl, (blk_cell BK389.out 1).trans rfl, (blk_cell BK390.out 0).trans rfl, (blk_cell BK390.out 1).trans rfl⟩ (fun hHeld => ?_)
                 clear hK K
                 refine norm_ (a' := ?_) ?_ ?_
                 rotate_left
                 ·
                  show Act.put _ (some 89) _ = _
                  simp only [Act.put, List.setIfInBounds_toArray, List.set_cons_zero, List.set_cons_succ, i64_w, i32_w]
                  rfl
                 exact norm_ (by simp only [putAll, Act.put, List.setIfInBounds_toArray, List.set_cons_zero, List.set_cons_succ]) (hCont (.slice Ao146 t449.length co146, .slice Ao147 t453.length co147, v458, gb460) _ ⟨hHeld, (by (with_reducible repeat (first | apply Kd.R_alloc | apply Kd.R_drewN | apply Kd.R_drew)); exact Kd.R_mono HO451.out (fun _ hk => ⟨hk.1.2, hk.2⟩)), (by (with_reducible repeat (first | apply Kd.R_alloc | apply Kd.R_drewN | apply Kd.R_drew)); exact Kd.R_mono HO455.out (fun _ hk => ⟨hk.1.2, hk.2⟩)), (by (with_reducible repeat (first | apply Kd.R_alloc | apply Kd.R_drewN | apply Kd.R_drew)); exact Kd.R_mono HO459.out (fun _ hk => ⟨hk.1.2, hk.2⟩)), (bx BK389.out), (bx BK390.out), (bx BK396.out), (bx BK447.out), (bx BK460.out), GW460.out, GE460.out, NB389_460.out, NB460_389.out, NB390_460.out, NB460_390.out, NB396_460.out, NB460_396.out, NB447_460.out, NB460_447.out, (by repeat (first | (with_reducible first | exact HB.out | apply below_alloc | apply pw_below_drewN | apply below_drew1 | refine below_set ?_ GE389.out | refine below_set ?_ GE390.out | refine below_set ?_ GE396.out | refine below_set ?_ GE447.out | refine below_set ?_ GE460.out) | exact HB.out))⟩)
               ·
                skip
                refine box_step ?hg (N := 14) ?hd (cs := #[.bool false, .slice none 0 0]) (t := 31) ?hr ?_; (case hd => rfl); (case hg => rfl); (case hr => first | (go_simp; done) | (go_simp; rfl))
                intro gb460 hg w144 hbox hb
                have n0_ := ak (Kd.R_below (rx HO451.out) hb)
                have n1_ := ak (blk_below (g := gb389) (o := .cells #[.int .i64 a0_0, .int .u64 a0_1] 50 (0, 0)) (bx BK389.out) hb)
                have n2_ := ak (blk_below (g := gb390) (o := .cells #[.int .i64 a1_0, .int .u64 a1_1] 50 (0, 0)) (bx BK390.out) hb)
                have n3_ := ak (blk_below (g := gb396) (o := .cells #[.int .i64 t394, .int .u64 t395] 50 (0, 0)) (bx BK396.out) hb)
                have n4_ := ak (blk_below (g := gb447) (o := .cells #[.int .i64 t444, .int .u64 t445] 50 (0, 0)) (bx BK447.out) hb)
                have n5_ := ak (below_step (by repeat (first | (with_reducible first | exact HB.out | apply below_alloc | apply pw_below_drewN | apply below_drew1 | refine below_set ?_ GE389.out | refine below_set ?_ GE390.out | refine below_set ?_ GE396.out | refine below_set ?_ GE447.out) | exact HB.out)) hb)
                have n6_ := ak (hbox)
                have n7_ := ak ((by rw [hg]; exact (below_size (by repeat (first | (with_reducible first | exact HB.out | apply below_alloc | apply pw_below_drewN | apply below_drew1 | refine below_set ?_ GE389.out | refine below_set ?_ GE390.out | refine below_set ?_ GE396.out | refine below_set ?_ GE447.out) | exact HB.out))) : w.heap.size ≤ gb460))
                have n8_ := ak ((by rw [hg]; exact (below_size (by repeat (first | (with_reducible first | exact HB.out | apply below_alloc | apply pw_below_drewN | apply below_drew1 | refine below_set ?_ GE389.out | refine below_set ?_ GE390.out | refine below_set ?_ GE396.out | refine below_set ?_ GE447.out) | exact HB.out))) : w.heap.size ≤ gb460))
                have n9_ := ak ((by rw [hg]; exact Nat.ne_of_lt (blk_lt (g := gb389) (o := .cells #[.int .i64 a0_0, .int .u64 a0_1] 50 (0, 0)) (bx BK389.out)) : gb389 ≠ gb460))
                have n10_ := ak ((by rw [hg]; exact Nat.ne_of_gt (blk_lt (g := gb389) (o := .cells #[.int .i64 a0_0, .int .u64 a0_1] 50 (0, 0)) (bx BK389.out)) : gb460 ≠ gb389))
                have n11_ := ak ((by rw [hg]; exact Nat.ne_of_lt (blk_lt (g := gb390) (o := .cells #[.int .i64 a1_0, .int .u64 a1_1] 50 (0, 0)) (bx BK390.out)) : gb390 ≠ gb460))
                have n12_ := ak ((by rw [hg]; exact Nat.ne_of_gt (blk_lt (g := gb390) (o := .cells #[.int .i64 a1_0, .int .u64 a1_1] 50 (0, 0)) (bx BK390.out)) : gb460 ≠ gb390))
                have n13_ := ak ((by rw [hg]; exact Nat.ne_of_lt (blk_lt (g := gb396) (o := .cells #[.int .i64 t394, .int .u64 t395] 50 (0, 0)) (bx BK396.out)) : gb396 ≠ gb460))
                have n14_ := ak ((by rw [hg]; exact Nat.ne_of_gt (blk_lt (g := gb396) (o := .cells #[.int .i64 t394, .int .u64 t395] 50 (0, 0)) (bx BK396.out)) : gb460 ≠ gb396))
                have n15_ := ak ((by rw [hg]; exact Nat.ne_of_lt (blk_lt (g := gb447) (o := .cells #[.int .i64 t444, .int .u64 t445] 50 (0, 0)) (bx BK447.out)) : gb447 ≠ gb460))
                have n16_ := ak ((by rw [hg]; exact Nat.ne_of_gt (blk_lt (g := gb447) (o := .cells #[.int .i64 t444, .int .u64 t445] 50 (0, 0)) (bx BK447.out)) : gb460 ≠ gb447))
                clear HO451
                clear BK389
                clear BK390
                clear BK396
                clear BK447
                clear HB
                have HO451 := n0_
                have BK389 := n1_
                have BK390 := n2_
                have BK396 := n3_
                have BK447 := n4_
                have HB := n5_
                have BK460 := n6_
                have GW460 := n7_
                have GE460 := n8_
                have NB389_460 := n9_
                have NB460_389 := n10_
                have NB390_460 := n11_
                have NB460_390 := n12_
                have NB396_460 := n13_
                have NB460_396 := n14_
                have NB447_460 := n15_
                have NB460_447 := n16_
                clear n0_ n1_ n2_ n3_ n4_ n5_ n6_ n7_ n8_ n9_ n10_ n11_ n12_ n13_ n14_ n15_ n16_
                clear hb hbox hg
                refine hK.out _ _ ⟨(blk_cell BK389.out 0).trans rfl, (blk_cell BK389.out 1).trans rfl, (blk_cell BK390.out 0).trans rfl, (blk_cell BK390.out 1).trans rfl⟩ (fun hHeld => ?_)
                clear hK K
                refine norm_ (a' := ?_) ?_ ?_
                rotate_left
                ·
                 show Act.put _ (some 14) _ = _
                 simp only [Act.put, List.setIfInBounds_toArray, List.set_cons_zero, List.set_cons_succ, i64_w, i32_w]
                 rfl
                refine one_ (i := 3) (N := some 88) #[true, true, true, true, false, true, false] rfl rfl (by kernel_rfl) (by decide) (fun K hK => ?_)
                refine goes_ Try.func23 (by kernel_rfl) rfl #[.agg #[.int .i64 a1_0, .int .u64 a1_1]] (by rfl) rfl rfl (by (try simp only [List.map_toArray, List.map_cons, List.map_nil]); first | done | rfl | (simp only [List.length_drop, List.length_take]; rfl)) ?_
                with_reducible refine (compasslaw01_wide.calls kj64 a1_0 a1_1 t452 t453 _ A89.out).mono ?_
                rintro e w145 ⟨v454, rfl, ho0, hb⟩
                refine ⟨_, rfl, ?_⟩
                have n0_ := ak (Kd.R_elder' (rx HO451.out) (Kd.R_base ho0) hb)
                have n1_ := ak (Kd.R_lower (Kd.R_new' ho0 (Kd.R_lt (rx HO451.out))) (below_size (by repeat (first | (with_reducible first | exact HB.out | apply below_alloc | apply pw_below_drewN | apply below_drew1 | refine below_set ?_ GE389.out | refine below_set ?_ GE390.out | refine below_set ?_ GE396.out | refine below_set ?_ GE447.out | refine below_set ?_ GE460.out) | exact HB.out))))
                have n2_ := ak (blk_below (g := gb389) (o := .cells #[.int .i64 a0_0, .int .u64 a0_1] 50 (0, 0)) (bx BK389.out) hb)
                have n3_ := ak (blk_below (g := gb390) (o := .cells #[.int .i64 a1_0, .int .u64 a1_1] 50 (0, 0)) (bx BK390.out) hb)
                have n4_ := ak (blk_below (g := gb396) (o := .cells #[.int .i64 t394, .int .u64 t395] 50 (0, 0)) (bx BK396.out) hb)
                have n5_ := ak (blk_below (g := gb447) (o := .cells #[.int .i64 t444, .int .u64 t445] 50 (0, 0)) (bx BK447.out) hb)
                have n6_ := ak (blk_below (g := gb460) (o := .cells #[.bool false, .slice none 0 0] 31 (0, 0)) (bx BK460.out) hb)
                have n7_ := ak (below_step (by repeat (first | (with_reducible first | exact HB.out | apply below_alloc | apply pw_below_drewN | apply below_drew1 | refine below_set ?_ GE389.out | refine below_set ?_ GE390.out | refine below_set ?_ GE396.out | refine below_set ?_ GE447.out | refine below_set ?_ GE460.out) | exact HB.out)) hb)
                clear HO451
                clear BK389
                clear BK390
                clear BK396
                clear BK447
                clear BK460
                clear HB
                have HO451 := n0_
                have HO455 := n1_
                have BK389 := n2_
                have BK390 := n3_
                have BK396 := n4_
                have BK447 := n5_
                have BK460 := n6_
                have HB := n7_
                clear n0_ n1_ n2_ n3_ n4_ n5_ n6_ n7_
                (try clear hb)
                (try clear hb2)
                (try clear hk)
                (try clear hi)
                (try clear ho0)
                obtain ⟨Ao146, co146, eo146⟩ := Kd.R_slice HO451.out
                (first | subst eo146 | (injection eo146 with f1_ f2_ f3_; have f4_ := f1_.symm; have f5_ := f3_.symm; clear f1_ f2_ f3_; subst f4_; subst f5_))
                obtain ⟨Ao147, co147, eo147⟩ := Kd.R_slice HO455.out
                (first | subst eo147 | (injection eo147 with f1_ f2_ f3_; have f4_ := f1_.symm; have f5_ := f3_.symm; clear f1_ f2_ f3_; subst f4_; subst f5_))
                refine hK.out _ _ ⟨(blk_cell BK389.out 0).trans rfl, (blk_cell BK389.out 1).trans rfl, (blk_cell BK390.out 0).trans rfl, (blk_cell BK390.out 1).trans rfl⟩ (fun hHeld => ?_)
                clear hK K
                refine norm_ (a' := ?_) ?_ ?_
                rotate_left
                ·
                 show Act.put _ (some 88) _ = _
                 simp only [Act.put, List.setIfInBounds_toArray, List.set_cons_zero, List.set_cons_succ, i64_w, i32_w]
                 rfl
                refine one_ (i := 4) (N := some 89) #[true, true, true, true, true, true, false] rfl rfl (by kernel_rfl) (by decide) (fun K hK => ?_)
                refine goes_ Try.func13 (by kernel_rfl) rfl #[.agg #[.bool t448, .slice Ao146 t449.length co146], .agg #[.bool t452, .slice Ao147 t453.length co147]] (by rfl) rfl rfl (by (try simp only [List.map_toArray, List.map_cons, List.map_nil]); first | done | rfl | (simp only [List.length_drop, List.length_take]; rfl)) ?_
                with_reducible refine (compassref01_Plus.calls kj64 t448 _ _ t449 t452 _ _ t453 t456 t457 _ ?side1 ?side2 ?side3 ?side4 A90.out).mono ?_
                (case side1 => repeat (first | exact (Kd.R_reads' HO451.out).2.2 | (with_reducible refine Kd.C_alloc ?_ _) | (with_reducible refine Kd.C_drewN ?_ _) | (with_reducible refine Kd.C_drew ?_)))
                (case side2 => exact (Kd.R_reads' HO451.out).2.1)
                (case side3 => repeat (first | exact (Kd.R_reads' HO455.out).2.2 | (with_reducible refine Kd.C_alloc ?_ _) | (with_reducible refine Kd.C_drewN ?_ _) | (with_reducible refine Kd.C_drew ?_)))
                (case side4 => exact (Kd.R_reads' HO455.out).2.1)
                rintro e w148 ⟨v458, rfl, ho0, hb⟩
                refine ⟨_, rfl, ?_⟩
                have n0_ := ak (Kd.R_elder' (rx HO451.out) (Kd.R_base ho0) hb)
                have n1_ := ak (Kd.R_elder' (rx HO455.out) (Kd.R_base ho0) hb)
                have n2_ := ak (Kd.R_lower (Kd.R_new' (Kd.R_new' ho0 (Kd.R_lt (rx HO451.out))) (Kd.R_lt (rx HO455.out))) (below_size (by repeat (first | (with_reducible first | exact HB.out | apply below_alloc | apply pw_below_drewN | apply below_drew1 | refine below_set ?_ GE389.out | refine below_set ?_ GE390.out | refine below_set ?_ GE396.out | refine below_set ?_ GE447.out | refine below_set ?_ GE460.out) | exact HB.out))))
                have n3_ := ak (blk_below (g := gb389) (o := .cells #[.int .i64 a0_0, .int .u64 a0_1] 50 (0, 0)) (bx BK389.out) hb)
                have n4_ := ak (blk_below (g := gb390) (o := .cells #[.int .i64 a1_0, .int .u64 a1_1] 50 (0, 0)) (bx BK390.out) hb)
                have n5_ := ak (blk_below (g := gb396) (o := .cells #[.int .i64 t394, .int .u64 t395] 50 (0, 0)) (bx BK396.out) hb)
                have n6_ := ak (blk_below (g := gb447) (o := .cells #[.int .i64 t444, .int .u64 t445] 50 (0, 0)) (bx BK447.out) hb)
                have n7_ := ak (blk_below (g := gb460) (o := .cells #[.bool false, .slice none 0 0] 31 (0, 0)) (bx BK460.out) hb)
                have n8_ := ak (below_step (by repeat (first | (with_reducible first | exact HB.out | apply below_alloc | apply pw_below_drewN | apply below_drew1 | refine below_set ?_ GE389.out | refine below_set ?_ GE390.out | refine below_set ?_ GE396.out | refine below_set ?_ GE447.out | refine below_set ?_ GE460.out) | exact HB.out)) hb)
                clear HO451
                clear HO455
                clear BK389
                clear BK390
                clear BK396
                clear BK447
                clear BK460
                clear HB
                have HO451 := n0_
                have HO455 := n1_
                have HO459 := n2_
                have BK389 := n3_
                have BK390 := n4_
                have BK396 := n5_
                have BK447 := n6_
                have BK460 := n7_
                have HB := n8_
                clear n0_ n1_ n2_ n3_ n4_ n5_ n6_ n7_ n8_
                (try clear hb)
                (try clear hb2)
                (try clear hk)
                (try clear hi)
                (try clear ho0)
                refine hK.out _ _ ⟨(blk_cell BK389.out 0).trans rfl, (blk_cell BK389.out 1).trans rfl, (blk_cell BK390.out 0).trans rfl, (blk_cell BK390.out 1).trans rfl⟩ (fun hHeld => ?_)
                clear hK K
                refine norm_ (a' := ?_) ?_ ?_
                rotate_left
                ·
                 show Act.put _ (some 89) _ = _
                 simp only [Act.put, List.setIfInBounds_toArray, List.set_cons_zero, List.set_cons_succ, i64_w, i32_w]
                 rfl
                exact norm_ (by simp only [putAll, Act.put, List.setIfInBounds_toArray, List.set_cons_zero, List.set_cons_succ]) (hCont (.slice Ao146 t449.length co146, .slice Ao147 t453.length co147, v458, gb460) _ ⟨hHeld, (by (with_reducible repeat (first | apply Kd.R_alloc | apply Kd.R_drewN | apply Kd.R_drew)); exact Kd.R_mono HO451.out (fun _ hk => ⟨hk.1.2, hk.2⟩)), (by (with_reducible repeat (first | apply Kd.R_alloc | apply Kd.R_drewN | apply Kd.R_drew)); exact Kd.R_mono HO455.out (fun _ hk => ⟨hk.1.2, hk.2⟩)), (by (with_reducible repeat (first | apply Kd.R_alloc | apply Kd.R_drewN | apply Kd.R_drew)); exact Kd.R_mono HO459.out (fun _ hk => ⟨hk.1.2, hk.2⟩)), (bx BK389.out), (bx BK390.out), (bx BK396.out), (bx BK447.out), (bx BK460.out), GW460.out, GE460.out, NB389_460.out, NB460_389.out, NB390_460.out, NB460_390.out, NB396_460.out, NB460_396.out, NB447_460.out, NB460_447.out, (by repeat (first | (with_reducible first | exact HB.out | apply below_alloc | apply pw_below_drewN | apply below_drew1 | refine below_set ?_ GE389.out | refine below_set ?_ GE390.out | refine below_set ?_ GE396.out | refine below_set ?_ GE447.out | refine below_set ?_ GE460.out) | exact HB.out))⟩)
              ·
               skip
               refine box_step ?hg (N := 14) ?hd (cs := #[.bool false, .slice none 0 0]) (t := 31) ?hr ?_; (case hd => rfl); (case hg => rfl); (case hr => first | (go_simp; done) | (go_simp; rfl))
               intro gb460 hg w143 hbox hb
               have n0_ := ak (blk_below (g := gb389) (o := .cells #[.int .i64 a0_0, .int .u64 a0_1] 50 (0, 0)) (bx BK389.out) hb)
               have n1_ := ak (blk_below (g := gb390) (o := .cells #[.int .i64 a1_0, .int .u64 a1_1] 50 (0, 0)) (bx BK390.out) hb)
               have n2_ := ak (blk_below (g := gb396) (o := .cells #[.int .i64 t394, .int .u64 t395] 50 (0, 0)) (bx BK396.out) hb)
               have n3_ := ak (blk_below (g := gb447) (o := .cells #[.int .i64 t444, .int .u64 t445] 50 (0, 0)) (bx BK447.out) hb)
               have n4_ := ak (below_step (by repeat (first | (with_reducible first | exact HB.out | apply below_alloc | apply pw_below_drewN | apply below_drew1 | refine below_set ?_ GE389.out | refine below_set ?_ GE390.out | refine below_set ?_ GE396.out | refine below_set ?_ GE447.out) | exact HB.out)) hb)
               have n5_ := ak (hbox)
               have n6_ := ak ((by rw [hg]; exact (below_size (by repeat (first | (with_reducible first | exact HB.out | apply below_alloc | apply pw_below_drewN | apply below_drew1 | refine below_set ?_ GE389.out | refine below_set ?_ GE390.out | refine below_set ?_ GE396.out | refine below_set ?_ GE447.out) | exact HB.out))) : w.heap.size ≤ gb460))
               have n7_ := ak ((by rw [hg]; exact (below_size (by repeat (first | (with_reducible first | exact HB.out | apply below_alloc | apply pw_below_drewN | apply below_drew1 | refine below_set ?_ GE389.out | refine below_set ?_ GE390.out | refine below_set ?_ GE396.out | refine below_set ?_ GE447.out) | exact HB.out))) : w.heap.size ≤ gb460))
               have n8_ := ak ((by rw [hg]; exact Nat.ne_of_lt (blk_lt (g := gb389) (o := .cells #[.int .i64 a0_0, .int .u64 a0_1] 50 (0, 0)) (bx BK389.out)) : gb389 ≠ gb460))
               have n9_ := ak ((by rw [hg]; exact Nat.ne_of_gt (blk_lt (g := gb389) (o := .cells #[.int .i64 a0_0, .int .u64 a0_1] 50 (0, 0)) (bx BK389.out)) : gb460 ≠ gb389))
               have n10_ := ak ((by rw [hg]; exact Nat.ne_of_lt (blk_lt (g := gb390) (o := .cells #[.int .i64 a1_0, .int .u64 a1_1] 50 (0, 0)) (bx BK390.out)) : gb390 ≠ gb460))
               have n11_ := ak ((by rw [hg]; exact Nat.ne_of_gt (blk_lt (g := gb390) (o := .cells #[.int .i64 a1_0, .int .u64 a1_1] 50 (0, 0)) (bx BK390.out)) : gb460 ≠ gb390))
               have n12_ := ak ((by rw [hg]; exact Nat.ne_of_lt (blk_lt (g := gb396) (o := .cells #[.int .i64 t394, .int .u64 t395] 50 (0, 0)) (bx BK396.out)) : gb396 ≠ gb460))
               have n13_ := ak ((by rw [hg]; exact Nat.ne_of_gt (blk_lt (g := gb396) (o := .cells #[.int .i64 t394, .int .u64 t395] 50 (0, 0)) (bx BK396.out)) : gb460 ≠ gb396))
               have n14_ := ak ((by rw [hg]; exact Nat.ne_of_lt (blk_lt (g := gb447) (o := .cells #[.int .i64 t444, .int .u64 t445] 50 (0, 0)) (bx BK447.out)) : gb447 ≠ gb460))
               have n15_ := ak ((by rw [hg]; exact Nat.ne_of_gt (blk_lt (g := gb447) (o := .cells #[.int .i64 t444, .int .u64 t445] 50 (0, 0)) (bx BK447.out)) : gb460 ≠ gb447))
               clear BK389
               clear BK390
               clear BK396
               clear BK447
               clear HB
               have BK389 := n0_
               have BK390 := n1_
               have BK396 := n2_
               have BK447 := n3_
               have HB := n4_
               have BK460 := n5_
               have GW460 := n6_
               have GE460 := n7_
               have NB389_460 := n8_
               have NB460_389 := n9_
               have NB390_460 := n10_
               have NB460_390 := n11_
               have NB396_460 := n12_
               have NB460_396 := n13_
               have NB447_460 := n14_
               have NB460_447 := n15_
               clear n0_ n1_ n2_ n3_ n4_ n5_ n6_ n7_ n8_ n9_ n10_ n11_ n12_ n13_ n14_ n15_
               clear hb hbox hg
               refine hK.out _ _ ⟨(blk_cell BK389.out 0).trans rfl, (blk_cell BK389.out 1).trans rfl, (blk_cell BK390.out 0).trans rfl, (blk_cell BK390.out 1).trans rfl⟩ (fun hHeld => ?_)
               clear hK K
               refine norm_ (a' := ?_) ?_ ?_
               rotate_left
               ·
                show Act.put _ (some 14) _ = _
                simp only [Act.put, List.setIfInBounds_toArray, List.set_cons_zero, List.set_cons_succ, i64_w, i32_w]
                rfl
               refine one_ (i := 1) (N := some 86) #[true, true, true, false, false, true, false] rfl rfl (by kernel_rfl) (by decide) (fun K hK => ?_)
               refine goes_ Try.func23 (by kernel_rfl) rfl #[.agg #[.int .i64 a0_0, .int .u64 a0_1]] (by rfl) rfl rfl (by (try simp only [List.map_toArray, List.map_cons, List.map_nil]); first | done | rfl | (simp only [List.length_drop, List.length_take]; rfl)) ?_
               with_reducible refine (compasslaw01_wide.calls kj64 a0_0 a0_1 t448 t449 _ A88.out).mono ?_
               rintro e w144 ⟨v450, rfl, ho0, hb⟩
               refine ⟨_, rfl, ?_⟩
               have n0_ := ak (Kd.R_lower ho0 (below_size (by repeat (first | (with_reducible first | exact HB.out | apply below_alloc | apply pw_below_drewN | apply below_drew1 | refine below_set ?_ GE389.out | refine below_set ?_ GE390.out | refine below_set ?_ GE396.out | refine below_set ?_ GE447.out | refine below_set ?_ GE460.out) | exact HB.out))))
               have n1_ := ak (blk_below (g := gb389) (o := .cells #[.int .i64 a0_0, .int .u64 a0_1] 50 (0, 0)) (bx BK389.out) hb)
               have n2_ := ak (blk_below (g := gb390) (o := .cells #[.int .i64 a1_0, .int .u64 a1_1] 50 (0, 0)) (bx BK390.out) hb)
               have n3_ := ak (blk_below (g := gb396) (o := .cells #[.int .i64 t394, .int .u64 t395] 50 (0, 0)) (bx BK396.out) hb)
               have n4_ := ak (blk_below (g := gb447) (o := .cells #[.int .i64 t444, .int .u64 t445] 50 (0, 0)) (bx BK447.out) hb)
               have n5_ := ak (blk_below (g := gb460) (o := .cells #[.bool false, .slice none 0 0] 31 (0, 0)) (bx BK460.out) hb)
               have n6_ := ak (below_step (by repeat (first | (with_reducible first | exact HB.out | apply below_alloc | apply pw_below_drewN | apply below_drew1 | refine below_set ?_ GE389.out | refine below_set ?_ GE390.out | refine below_set ?_ GE396.out | refine below_set ?_ GE447.out | refine below_set ?_ GE460.out) | exact HB.out)) hb)
               clear BK389
               clear BK390
               clear BK396
               clear BK447
               clear BK460
               clear HB
               have HO451 := n0_
               have BK389 := n1_
               have BK390 := n2_
               have BK396 := n3_
               have BK447 := n4_
               have BK460 := n5_
               have HB := n6_
               clear n0_ n1_ n2_ n3_ n4_ n5_ n6_
               (try clear hb)
               (try clear hb2)
               (try clear hk)
               (try clear hi)
               (try clear ho0)
               refine hK.out _ _ ⟨(blk_cell BK389.out 0).trans rfl, (blk_cell BK389.out 1).trans rfl, (blk_cell BK390.out 0).trans rfl, (blk_cell BK390.out 1).trans rfl⟩ (fun hHeld => ?_)
               clear hK K
               refine norm_ (a' := ?_) ?_ ?_
               rotate_left
               ·
                show Act.put _ (some 86) _ = _
                simp only [Act.put, List.setIfInBounds_toArray, List.set_cons_zero, List.set_cons_succ, i64_w, i32_w]
                rfl
               refine one_ (i := 3) (N := some 88) #[true, true, true, true, false, true, false] rfl rfl (by kernel_rfl) (by decide) (fun K hK => ?_)
               refine goes_ Try.func23 (by kernel_rfl) rfl #[.agg #[.int .i64 a1_0, .int .u64 a1_1]] (by rfl) rfl rfl (by (try simp only [List.map_toArray, List.map_cons, List.map_nil]); first | done | rfl | (simp only [List.length_drop, List.length_take]; rfl)) ?_
               with_reducible refine (compasslaw01_wide.calls kj64 a1_0 a1_1 t452 t453 _ A89.out).mono ?_
               rintro e w145 ⟨v454, rfl, ho0, hb⟩
               refine ⟨_, rfl, ?_⟩
               have n0_ := ak (Kd.R_elder' (rx HO451.out) (Kd.R_base ho0) hb)
               have n1_ := ak (Kd.R_lower (Kd.R_new' ho0 (Kd.R_lt (rx HO451.out))) (below_size (by repeat (first | (with_reducible first | exact HB.out | apply below_alloc | apply pw_below_drewN | apply below_drew1 | refine below_set ?_ GE389.out | refine below_set ?_ GE390.out | refine below_set ?_ GE396.out | refine below_set ?_ GE447.out | refine below_set ?_ GE460.out) | exact HB.out))))
               have n2_ := ak (blk_below (g := gb389) (o := .cells #[.int .i64 a0_0, .int .u64 a0_1] 50 (0, 0)) (bx BK389.out) hb)
               have n3_ := ak (blk_below (g := gb390) (o := .cells #[.int .i64 a1_0, .int .u64 a1_1] 50 (0, 0)) (bx BK390.out) hb)
               have n4_ := ak (blk_below (g := gb396) (o := .cells #[.int .i64 t394, .int .u64 t395] 50 (0, 0)) (bx BK396.out) hb)
               have n5_ := ak (blk_below (g := gb447) (o := .cells #[.int .i64 t444, .int .u64 t445] 50 (0, 0)) (bx BK447.out) hb)
               have n6_ := ak (blk_below (g := gb460) (o := .cells #[.bool false, .slice none 0 0] 31 (0, 0)) (bx BK460.out) hb)
               have n7_ := ak (below_step (by repeat (first | (with_reducible first | exact HB.out | apply below_alloc | apply pw_below_drewN | apply below_drew1 | refine below_set ?_ GE389.out | refine below_set ?_ GE390.out | refine below_set ?_ GE396.out | refine below_set ?_ GE447.out | refine below_set ?_ GE460.out) | exact HB.out)) hb)
               clear HO451
               clear BK389
               clear BK390
               clear BK396
               clear BK447
               clear BK460
               clear HB
               have HO451 := n0_
               have HO455 := n1_
               have BK389 := n2_
               have BK390 := n3_
               have BK396 := n4_
               have BK447 := n5_
               have BK460 := n6_
               have HB := n7_
               clear n0_ n1_ n2_ n3_ n4_ n5_ n6_ n7_
               (try clear hb)
               (try clear hb2)
               (try clear hk)
               (try clear hi)
               (try clear ho0)
               obtain ⟨Ao146, co146, eo146⟩ := Kd.R_slice HO451.out
               (first | subst eo146 | (injection eo146 with f1_ f2_ f3_; have f4_ := f1_.symm; have f5_ := f3_.symm; clear f1_ f2_ f3_; subst f4_; subst f5_))
               obtain ⟨Ao147, co147, eo147⟩ := Kd.R_slice HO455.out
               (first | subst eo147 | (injection eo147 with f1_ f2_ f3_; have f4_ := f1_.symm; have f5_ := f3_.symm; clear f1_ f2_ f3_; subst f4_; subst f5_))
               refine hK.out _ _ ⟨(blk_cell BK389.out 0).trans rfl, (blk_cell BK389.out 1).trans rfl, (blk_cell BK390.out 0).trans rfl, (blk_cell BK390.out 1).trans rfl⟩ (fun hHeld => ?_)
               clear hK K
               refine norm_ (a' := ?_) ?_ ?_
               rotate_left
               ·
                show Act.put _ (some 88) _ = _
                simp only [Act.put, List.setIfInBounds_toArray, List.set_cons_zero, List.set_cons_succ, i64_w, i32_w]
                rfl
               refine one_ (i := 4) (N := some 89) #[true, true, true, true, true, true, false] rfl rfl (by kernel_rfl) (by decide) (fun K hK => ?_)
               refine goes_ Try.func13 (by kernel_rfl) rfl #[.agg #[.bool t448, .slice Ao146 t449.length co146], .agg #[.bool t452, .slice Ao147 t453.length co147]] (by rfl) rfl rfl (by (try simp only [List.map_toArray, List.map_cons, List.map_nil]); first | done | rfl | (simp only [List.length_drop, List.length_take]; rfl)) ?_
               with_reducible refine (compassref01_Plus.calls kj64 t448 _ _ t449 t452 _ _ t453 t456 t457 _ ?side1 ?side2 ?side3 ?side4 A90.out).mono ?_
               (case side1 => repeat (first | exact (Kd.R_reads' HO451.out).2.2 | (with_reducible refine Kd.C_alloc ?_ _) | (with_reducible refine Kd.C_drewN ?_ _) | (with_reducible refine Kd.C_drew ?_)))
               (case side2 => exact (Kd.R_reads' HO451.out).2.1)
               (case side3 => repeat (first | exact (Kd.R_reads' HO455.out).2.2 | (with_reducible refine Kd.C_alloc ?_ _) | (with_reducible refine Kd.C_drewN ?_ _) | (with_reducible refine Kd.C_drew ?_)))
               (case side4 => exact (Kd.R_reads' HO455.out).2.1)
               rintro e w148 ⟨v458, rfl, ho0, hb⟩
               refine ⟨_, rfl, ?_⟩
               have n0_ := ak (Kd.R_elder' (rx HO451.out) (Kd.R_base ho0) hb)
               have n1_ := ak (Kd.R_elder' (rx HO455.out) (Kd.R_base ho0) hb)
               have n2_ := ak (Kd.R_lower (Kd.R_new' (Kd.R_new' ho0 (Kd.R_lt (rx HO451.out))) (Kd.R_lt (rx HO455.out))) (below_size (by repeat (first | (with_reducible first | exact HB.out | apply below_alloc | apply pw_below_drewN | apply below_drew1 | refine below_set ?_ GE389.out | refine below_set ?_ GE390.out | refine below_set ?_ GE396.out | refine below_set ?_ GE447.out | refine below_set ?_ GE460.out) | exact HB.out))))
               have n3_ := ak (blk_below (g := gb389) (o := .cells #[.int .i64 a0_0, .int .u64 a0_1] 50 (0, 0)) (bx BK389.out) hb)
               have n4_ := ak (blk_below (g := gb390) (o := .cells #[.int .i64 a1_0, .int .u64 a1_1] 50 (0, 0)) (bx BK390.out) hb)
               have n5_ := ak (blk_below (g := gb396) (o := .cells #[.int .i64 t394, .int .u64 t395] 50 (0, 0)) (bx BK396.out) hb)
               have n6_ := ak (blk_below (g := gb447) (o := .cells #[.int .i64 t444, .int .u64 t445] 50 (0, 0)) (bx BK447.out) hb)
               have n7_ := ak (blk_below (g := gb460) (o := .cells #[.bool false, .slice none 0 0] 31 (0, 0)) (bx BK460.out) hb)
               have n8_ := ak (below_step (by repeat (first | (with_reducible first | exact HB.out | apply below_alloc | apply pw_below_drewN | apply below_drew1 | refine below_set ?_ GE389.out | refine below_set ?_ GE390.out | refine below_set ?_ GE396.out | refine below_set ?_ GE447.out | refine below_set ?_ GE460.out) | exact HB.out)) hb)
               clear HO451
               clear HO455
               clear BK389
               clear BK390
               clear BK396
               clear BK447
               clear BK460
               clear HB
               have HO451 := n0_
               have HO455 := n1_
               have HO459 := n2_
               have BK389 := n3_
               have BK390 := n4_
               have BK396 := n5_
               have BK447 := n6_
               have BK460 := n7_
               have HB := n8_
               clear n0_ n1_ n2_ n3_ n4_ n5_ n6_ n7_ n8_
               (try clear hb)
               (try clear hb2)
               (try clear hk)
               (try clear hi)
               (try clear ho0)
               refine hK.out _ _ ⟨(blk_cell BK389.out 0).trans rfl, (blk_cell BK389.out 1).trans rfl, (blk_cell BK390.out 0).trans rfl, (blk_cell BK390.out 1).trans rfl⟩ (fun hHeld => ?_)
               clear hK K
               refine norm_ (a' := ?_) ?_ ?_
               rotate_left
               ·
                show Act.put _ (some 89) _ = _
                simp only [Act.put, List.setIfInBounds_toArray, List.set_cons_zero, List.set_cons_succ, i64_w, i32_w]
                rfl
               exact norm_ (by simp only [putAll, Act.put, List.setIfInBounds_toArray, List.set_cons_zero, List.set_cons_succ]) (hCont (.slice Ao146 t449.length co146, .slice Ao147 t453.length co147, v458, gb460) _ ⟨hHeld, (by (with_reducible repeat (first | apply Kd.R_alloc | apply Kd.R_drewN | apply Kd.R_drew)); exact Kd.R_mono HO451.out (fun _ hk => ⟨hk.1.2, hk.2⟩)), (by (with_reducible repeat (first | apply Kd.R_alloc | apply Kd.R_drewN | apply Kd.R_drew)); exact Kd.R_mono HO455.out (fun _ hk => ⟨hk.1.2, hk.2⟩)), (by (with_reducible repeat (first | apply Kd.R_alloc | apply Kd.R_drewN | apply Kd.R_drew)); exact Kd.R_mono HO459.out (fun _ hk => ⟨hk.1.2, hk.2⟩)), (bx BK389.out), (bx BK390.out), (bx BK396.out), (bx BK447.out), (bx BK460.out), GW460.out, GE460.out, NB389_460.out, NB460_389.out, NB390_460.out, NB460_390.out, NB396_460.out, NB460_396.out, NB447_460.out, NB460_447.out, (by repeat (first | (with_reducible first | exact HB.out | apply below_alloc | apply pw_below_drewN | apply below_drew1 | refine below_set ?_ GE389.out | refine below_set ?_ GE390.out | refine below_set ?_ GE396.out | refine below_set ?_ GE447.out | refine below_set ?_ GE460.out) | exact HB.out))⟩)
             rintro ⟨v450, v454, v458, gb460⟩ w149 ⟨hS_, h0_, h1_, h2_, h3_, h4_, h5_, h6_, h7_, h8_, h9_, h10_, h11_, h12_, h13_, h14_, h15_, h16_, h17_, h18_⟩
             have n0_ : Aside0 (Kd.R (Kd.int .u64) 22 w149 w.heap.size (fun k_ => some k_ ≠ (v454 : Value).ownBlock ∧ some k_ ≠ (v458 : Value).ownBlock) v450 t449) := ⟨h0_⟩
             have n1_ : Aside0 (Kd.R (Kd.int .u64) 22 w149 w.heap.size (fun k_ => some k_ ≠ (v450 : Value).ownBlock ∧ some k_ ≠ (v458 : Value).ownBlock) v454 t453) := ⟨h1_⟩
             have n2_ : Aside0 (Kd.R (Kd.int .u64) 22 w149 w.heap.size (fun k_ => some k_ ≠ (v450 : Value).ownBlock ∧ some k_ ≠ (v454 : Value).ownBlock) v458 t457) := ⟨h2_⟩
             have n3_ : Aside0 (w149.heap[gb389]? = some (.cells #[.int .i64 a0_0, .int .u64 a0_1] 50 (0, 0))) := ⟨h3_⟩
             have n4_ : Aside0 (w149.heap[gb390]? = some (.cells #[.int .i64 a1_0, .int .u64 a1_1] 50 (0, 0))) := ⟨h4_⟩
             have n5_ : Aside0 (w149.heap[gb396]? = some (.cells #[.int .i64 t394, .int .u64 t395] 50 (0, 0))) := ⟨h5_⟩
             have n6_ : Aside0 (w149.heap[gb447]? = some (.cells #[.int .i64 t444, .int .u64 t445] 50 (0, 0))) := ⟨h6_⟩
             have n7_ : Aside0 (w149.heap[gb460]? = some (.cells #[.bool false, .slice none 0 0] 31 (0, 0))) := ⟨h7_⟩
             have n8_ : Aside0 (w.heap.size ≤ gb460) := ⟨h8_⟩
             have n9_ : Aside0 (w.heap.size ≤ gb460) := ⟨h9_⟩
             have n10_ : Aside0 (gb389 ≠ gb460) := ⟨h10_⟩
             have n11_ : Aside0 (gb460 ≠ gb389) := ⟨h11_⟩
             have n12_ : Aside0 (gb390 ≠ gb460) := ⟨h12_⟩
             have n13_ : Aside0 (gb460 ≠ gb390) := ⟨h13_⟩
             have n14_ : Aside0 (gb396 ≠ gb460) := ⟨h14_⟩
             have n15_ : Aside0 (gb460 ≠ gb396) := ⟨h15_⟩
             have n16_ : Aside0 (gb447 ≠ gb460) := ⟨h16_⟩
             have n17_ : Aside0 (gb460 ≠ gb447) := ⟨h17_⟩
             have n18_ : Aside0 (Below w.heap.size w w149) := ⟨h18_⟩
             clear BK389
             clear BK390
             clear BK396
             clear BK447
             clear HB
             clear h0_ h1_ h2_ h3_ h4_ h5_ h6_ h7_ h8_ h9_ h10_ h11_ h12_ h13_ h14_ h15_ h16_ h17_ h18_
             have HO451 := n0_
             have HO455 := n1_
             have HO459 := n2_
             have BK389 := n3_
             have BK390 := n4_
             have BK396 := n5_
             have BK447 := n6_
             have BK460 := n7_
             have GW460 := n8_
             have GE460 := n9_
             have NB389_460 := n10_
             have NB460_389 := n11_
             have NB390_460 := n12_
             have NB460_390 := n13_
             have NB396_460 := n14_
             have NB460_396 := n15_
             have NB447_460 := n16_
             have NB460_447 := n17_
             have HB := n18_
             clear n0_ n1_ n2_ n3_ n4_ n5_ n6_ n7_ n8_ n9_ n10_ n11_ n12_ n13_ n14_ n15_ n16_ n17_ n18_
             have hHeld : w149.cell? ⟨gb389, 0, none⟩ = some (.int .i64 a0_0) ∧ w149.cell? ⟨gb389, 1, none⟩ = some (.int .u64 a0_1) ∧ w149.cell? ⟨gb390, 0, none⟩ = some (.int .i64 a1_0) ∧ w149.cell? ⟨gb390, 1, none⟩ = some (.int .u64 a1_1) := hS_
             obtain ⟨Ao151, co151, eo151⟩ := Kd.R_slice HO459.out
             (first | subst eo151 | (injection eo151 with f1_ f2_ f3_; have f4_ := f1_.symm; have f5_ := f3_.symm; clear f1_ f2_ f3_; subst f4_; subst f5_))
             refine norm_ (a' := ?_) ?_ ?_
             rotate_left
             ·
              simp only [putAll, Act.put, List.setIfInBounds_toArray, List.set_cons_zero, List.set_cons_succ]
              rfl
             refine one_ (i := 6) (N := none) #[true, true, true, true, true, true, true] rfl rfl (by kernel_rfl) (by decide) (fun K hK => ?_)
             have hs150 : w149.cell? ⟨gb460, 0, none⟩ = some (.bool false) := (blk_cell BK460.out 0).trans rfl
             have hfs150 := blk_frozen BK460.out 0
             have hns150_0 := NB389_460.out
             have hns150_1 := NB390_460.out
             have hns150_2 := NB396_460.out
             have hns150_3 := NB447_460.out
             have hms150_0 := NB460_389.out
             have hms150_1 := NB460_390.out
             have hms150_2 := NB460_396.out
             have hms150_3 := NB460_447.out
             have hs152 : w149.cell? ⟨gb460, 1, none⟩ = some (.slice none 0 0) := (blk_cell BK460.out 1).trans rfl
             have hfs152 := blk_frozen BK460.out 1
             have hns152_0 := NB389_460.out
             have hns152_1 := NB390_460.out
             have hns152_2 := NB396_460.out
             have hns152_3 := NB447_460.out
             have hms152_0 := NB460_389.out
             have hms152_1 := NB460_390.out
             have hms152_2 := NB460_396.out
             have hms152_3 := NB460_447.out
             refine skip_ (w1 := ?_) (by rfl) rfl ?_ ?_
             rotate_left
             ·
              go_simp
              rfl
             refine hK.out _ _ ⟨((cell_far (p := ⟨gb460, _, none⟩) NB389_460.out _).trans (((cell_far (p := ⟨gb460, _, none⟩) NB389_460.out _).trans (hHeld.1)))), ((cell_far (p := ⟨gb460, _, none⟩) NB389_460.out _).trans (((cell_far (p := ⟨gb460, _, none⟩) NB389_460.out _).trans (hHeld.2.1)))), ((cell_far (p := ⟨gb460, _, none⟩) NB390_460.out _).trans (((cell_far (p := ⟨gb460, _, none⟩) NB390_460.out _).trans (hHeld.2.2.1)))), ((cell_far (p := ⟨gb460, _, none⟩) NB390_460.out _).trans (((cell_far (p := ⟨gb460, _, none⟩) NB390_460.out _).trans (hHeld.2.2.2))))⟩ (fun hHeld => ?_)
             clear hK K
             refine done_ (by kernel_rfl) ?_
             have hnb153 := NB460_389.out
             have hnc153 := NB389_460.out
             have hnb154 := NB460_390.out
             have hnc154 := NB390_460.out
             have hnb155 := NB460_396.out
             have hnc155 := NB396_460.out
             have hnb156 := NB460_447.out
             have hnc156 := NB447_460.out
             have hcz157_0 : w149.cell? ⟨gb460, 0, none⟩ = some (.bool false) := (blk_cell BK460.out 0).trans rfl
             have hcz157_1 : w149.cell? ⟨gb460, 1, none⟩ = some (.slice none 0 0) := (blk_cell BK460.out 1).trans rfl
             have hfz157_0 := blk_frozen BK460.out 0
             have hfz157_1 := blk_frozen BK460.out 1
             try go_wp2_with (first | ((with_reducible refine gate_callee (f := 29) rfl ?_); refine goesL_ (some 91) rfl rfl Try.func29 (by kernel_rfl) rfl #[.agg #[.bool t456, .slice Ao151 t457.length co151]] rfl (by (try simp only [List.map_toArray, List.map_cons, List.map_nil]); first | done | rfl | (simp only [List.length_drop, List.length_take]; rfl)) ?_; (with_reducible refine (compassref01_Fits.calls kj64 t456 _ _ t457 false _ ?side1 ?side2 A91.out).mono ?_); (case side1 => refine (Kd.R_reads' (e := 22) (base := w.heap.size) (ok := fun k_ => (some k_ ≠ (v450 : Value).ownBlock ∧ some k_ ≠ (v454 : Value).ownBlock)) (n := t457.length) (c := co151) ?_).2.2; exact (by (with_reducible repeat (first | apply Kd.R_alloc | apply Kd.R_drewN | apply Kd.R_drew)); exact (Kd.R_mono (Kd.R_far (p := ⟨gb460, 1, none⟩) (Kd.R_far (p := ⟨gb460, 0, none⟩) (Kd.R_types HO459.out BK460.out (by decide)) (fun _ hk => hk.2) (.bool t456)) (fun _ hk => hk.2) (.slice Ao151 t457.length co151)) (fun _ h_ => h_.1)))); (case side2 => exact (Kd.R_reads' HO459.out).2.1); rintro e w158 ⟨rfl, hb⟩; refine ⟨_, rfl, ?_⟩; have n0_ := ak (Kd.R_below (by (with_reducible repeat (first | apply Kd.R_alloc | apply Kd.R_drewN | apply Kd.R_drew)); exact (Kd.R_mono (Kd.R_far (p := ⟨gb460, 1, none⟩) (Kd.R_far (p := ⟨gb460, 0, none⟩) (Kd.R_types HO451.out BK460.out (by decide)) (fun _ hk => hk.2) (.bool t456)) (fun _ hk => hk.2) (.slice Ao151 t457.length co151)) (fun _ h_ => h_.1))) hb); have n1_ := ak (Kd.R_below (by (with_reducible repeat (first | apply Kd.R_alloc | apply Kd.R_drewN | apply Kd.R_drew)); exact (Kd.R_mono (Kd.R_far (p := ⟨gb460, 1, none⟩) (Kd.R_far (p := ⟨gb460, 0, none⟩) (Kd.R_types HO455.out BK460.out (by decide)) (fun _ hk => hk.2) (.bool t456)) (fun _ hk => hk.2) (.slice Ao151 t457.length co151)) (fun _ h_ => h_.1))) hb); have n2_ := ak (Kd.R_below (by (with_reducible repeat (first | apply Kd.R_alloc | apply Kd.R_drewN | apply Kd.R_drew)); exact (Kd.R_mono (Kd.R_far (p := ⟨gb460, 1, none⟩) (Kd.R_far (p := ⟨gb460, 0, none⟩) (Kd.R_types HO459.out BK460.out (by decide)) (fun _ hk => hk.2) (.bool t456)) (fun _ hk => hk.2) (.slice Ao151 t457.length co151)) (fun _ h_ => h_.1))) hb); have n3_ := ak (blk_below (g := gb389) (o := .cells #[.int .i64 a0_0, .int .u64 a0_1] 50 (0, 0)) (by (with_reducible repeat (first | refine blk_drewN ?_ _ | refine blk_drew ?_ | refine blk_alloc ?_ _)); refine blk_far ?_ NB389_460.out _; (with_reducible repeat (first | refine blk_drewN ?_ _ | refine blk_drew ?_ | refine blk_alloc ?_ _)); refine blk_far ?_ NB389_460.out _; exact bx BK389.out) hb); have n4_ := ak (blk_below (g := gb390) (o := .cells #[.int .i64 a1_0, .int .u64 a1_1] 50 (0, 0)) (by (with_reducible repeat (first | refine blk_drewN ?_ _ | refine blk_drew ?_ | refine blk_alloc ?_ _)); refine blk_far ?_ NB390_460.out _; (with_reducible repeat (first | refine blk_drewN ?_ _ | refine blk_drew ?_ | refine blk_alloc ?_ _)); refine blk_far ?_ NB390_460.out _; exact bx BK390.out) hb); have n5_ := ak (blk_below (g := gb396) (o := .cells #[.int .i64 t394, .int .u64 t395] 50 (0, 0)) (by (with_reducible repeat (first | refine blk_drewN ?_ _ | refine blk_drew ?_ | refine blk_alloc ?_ _)); refine blk_far ?_ NB396_460.out _; (with_reducible repeat (first | refine blk_drewN ?_ _ | refine blk_drew ?_ | refine blk_alloc ?_ _)); refine blk_far ?_ NB396_460.out _; exact bx BK396.out) hb); have n6_ := ak (blk_below (g := gb447) (o := .cells #[.int .i64 t444, .int .u64 t445] 50 (0, 0)) (by (with_reducible repeat (first | refine blk_drewN ?_ _ | refine blk_drew ?_ | refine blk_alloc ?_ _)); refine blk_far ?_ NB447_460.out _; (with_reducible repeat (first | refine blk_drewN ?_ _ | refine blk_drew ?_ | refine blk_alloc ?_ _)); refine blk_far ?_ NB447_460.out _; exact bx BK447.out) hb); have n7_ := ak (blk_below (g := gb460) (o := .cells #[.bool t456, .slice Ao151 t457.length co151] 31 (0, 0)) (by (with_reducible repeat (first | refine blk_drewN ?_ _ | refine blk_drew ?_ | refine blk_alloc ?_ _)); refine blk_put (cs := #[.bool t456, .slice none 0 0]) ?_ 1 _ rfl; (with_reducible repeat (first | refine blk_drewN ?_ _ | refine blk_drew ?_ | refine blk_alloc ?_ _)); refine blk_put (cs := #[.bool false, .slice none 0 0]) ?_ 0 _ rfl; exact bx BK460.out) hb); have n8_ := ak (below_step (by repeat (first | (with_reducible first | exact HB.out | apply below_alloc | apply pw_below_drewN | apply below_drew1 | refine below_set ?_ GE389.out | refine below_set ?_ GE390.out | refine below_set ?_ GE396.out | refine below_set ?_ GE447.out | refine below_set ?_ GE460.out) | exact HB.out)) hb); clear HO451; clear HO455; clear HO459; clear BK389; clear BK390; clear BK396; clear BK447; clear BK460; clear HB; have HO451 := n0_; have HO455 := n1_; have HO459 := n2_; have BK389 := n3_; have BK390 := n4_; have BK396 := n5_; have BK447 := n6_; have BK460 := n7_; have HB := n8_; clear n0_ n1_ n2_ n3_ n4_ n5_ n6_ n7_ n8_; (try clear hb); (try clear hb2); (try clear hk); (try clear hi); have hcz159_0 : w158.cell? ⟨gb447, 0, none⟩ = some (.int .i64 t444) := (blk_cell BK447.out 0).trans rfl; have hcz159_1 : w158.cell? ⟨gb447, 1, none⟩ = some (.int .u64 t445) := (blk_cell BK447.out 1).trans rfl; have hfz159_0 := blk_frozen BK447.out 0; have hfz159_1 := blk_frozen BK447.out 1))
             all_goals (go_ret; exact ⟨by first | rfl | (simp [errW_none, errW_some] <;> rfl) | (simp [*, errW_none, errW_some] <;> rfl), by repeat (first | (with_reducible first | exact HB.out | apply below_alloc | apply pw_below_drewN | apply below_drew1 | refine below_set ?_ GE389.out | refine below_set ?_ GE390.out | refine below_set ?_ GE396.out | refine below_set ?_ GE447.out | refine below_set ?_ GE460.out) | exact HB.out)⟩)

            ·
             rw [if_neg c129] at H
             have c129b0 : (t446 == 10) = false := beq_eq_false_iff_ne.mpr c129
             have c129b1 : (t446 != 10) = true := bne_iff_ne.mpr c129
             exact absurd ((Option.some.inj H).trans HR_.out) (by decide)
    ·
     rw [if_neg c20] at H
     have c20b0 : (t413 == 0) = false := beq_eq_false_iff_ne.mpr c20
     have c20b1 : (t413 != 0) = true := bne_iff_ne.mpr c20
     exact absurd ((Option.some.inj H).trans HR_.out) (by decide)

end Go.Proofs.Ytofcjoccnbegdaa.Q
