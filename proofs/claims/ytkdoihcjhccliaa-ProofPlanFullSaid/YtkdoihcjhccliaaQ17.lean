import Derived.Test.YtkdoihcjhccliaaQ0
import Derived.Test.YtkdoihcjhccliaaQ57
namespace Go.Proofs.Ytkdoihcjhccliaa.Q
open Go.RowKit Go.Proofs.YtkdoihcjhccliaaW.PrintWords Go.Proofs.YtkdoihcjhccliaaW.PrintLast Go.Proofs.YtkdoihcjhccliaaW.PrintMore
attribute [local go_sem] max2_int min2_int max_two min_two max_three min_three max_four min_four   -- for this text's walks alone
set_option linter.unusedVariables false
set_option linter.unusedSimpArgs false

/-! ### safeint_NewRatio: function 77 -/
mutual
def safeint_NewRatio.j0 : Nat → Int → Int → Bool → Option (Int × Int × Int)
  | 0, _, _, _ => none
  | k + 1, x7, x8, x9 => if x8 > 9223372036854775807 then (safeint_NewRatio.j1 k x7 x8 x9 true) else (if x7 > 9223372036854775807 then (if x9 = true then (safeint_NewRatio.j1 k x7 x8 x9 (!(x7 == 9223372036854775808))) else (safeint_NewRatio.j1 k x7 x8 x9 (!false))) else (safeint_NewRatio.j1 k x7 x8 x9 false))
def safeint_NewRatio.j1 : Nat → Int → Int → Bool → Bool → Option (Int × Int × Int)
  | 0, _, _, _, _ => none
  | k + 1, x7, x8, x9, x46 => if x46 = true then (some (0, 0, 10)) else (if x9 = true then (some (wrap64 (IntKind.u64.wrap (-x7)), wrap64 (x8), 0)) else (some (wrap64 (x7), wrap64 (x8), 0)))
end
def safeint_NewRatio.f (k : Nat) (a0 : Int) (a1 : Int) : Option (Int × Int × Int) := if a1 = 0 then (some (0, 0, 11)) else ((safeint_Gcd.f k a0 a1).bind fun t233 => ((safeint_size.f a0).bind fun t234 => (if t233 = 0 then (none) else ((safeint_size.f a1).bind fun t235 => (if ((decide (a0 < 0)) != (decide (a1 < 0))) = true then (safeint_NewRatio.j0 k (IntKind.u64.wrap (Int.tdiv t234 t233)) (IntKind.u64.wrap (Int.tdiv t235 t233)) (a0 != 0)) else (safeint_NewRatio.j0 k (IntKind.u64.wrap (Int.tdiv t234 t233)) (IntKind.u64.wrap (Int.tdiv t235 t233)) false))))))
set_option maxHeartbeats 8000000 in
set_option maxRecDepth 100000 in
theorem safeint_NewRatio.calls (k : Nat) (a0 : Int) (a1 : Int) (r1 : Int) (r2 : Int) (r3 : Int) (w : World) (h : safeint_NewRatio.f k a0 a1 = some (r1, r2, r3)) :
    Calls Try.prog 77 #[.int .i64 a0, .int .i64 a1] w fun e w' => e = .returned (.tuple #[.agg #[.int .i64 r1, .int .i64 r2], .int .i64 r3]) ∧ Below w.heap.size w w' := by
 have hu74 := Try.underlying74; have HB := ak (Below.refl w.heap.size w); have H : (if a1 = 0 then (some (0, 0, 11)) else ((safeint_Gcd.f k a0 a1).bind fun t233 => ((safeint_size.f a0).bind fun t234 => (if t233 = 0 then (none) else ((safeint_size.f a1).bind fun t235 => (if ((decide (a0 < 0)) != (decide (a1 < 0))) = true then (safeint_NewRatio.j0 k (IntKind.u64.wrap (Int.tdiv t234 t233)) (IntKind.u64.wrap (Int.tdiv t235 t233)) (a0 != 0)) else (safeint_NewRatio.j0 k (IntKind.u64.wrap (Int.tdiv t234 t233)) (IntKind.u64.wrap (Int.tdiv t235 t233)) false))))))) = some (r1, r2, r3) := h; clear h
 by_cases c3 : a1 = 0
 ·
  rw [if_pos c3] at H; have c3b := be2 c3; clear c3
  simp only [Option.some.injEq, Prod.mk.injEq] at H
  obtain ⟨rfl, rfl, rfl⟩ := H
  go_enter Try.func77, Try.ntmps77
  go_wp2_with (first | ((with_reducible refine gate_dst (N := 4) rfl ?_); refine bxe 4 #[.int .i64 0, .int .i64 0] 74 ?_; intro gb232 hg w4 hbox hb; have n_ := a4 (bl hb) hbox (gw w hg) (gw w hg); clear HB; obtain ⟨HB, BK232, GW232, GE232⟩ := n_; clear hb hbox hg; have ⟨_, _, _, _⟩ := cf2 BK232))
  repeat (go_quiet (first | ((with_reducible refine gate_dst (N := 4) rfl ?_); refine bxe 4 #[.int .i64 0, .int .i64 0] 74 ?_; intro gb232 hg w4 hbox hb; have n_ := a4 (bl hb) hbox (gw w hg) (gw w hg); clear HB; obtain ⟨HB, BK232, GW232, GE232⟩ := n_; clear hb hbox hg; have ⟨_, _, _, _⟩ := cf2 BK232)); try go_wp2_with (first | ((with_reducible refine gate_dst (N := 4) rfl ?_); refine bxe 4 #[.int .i64 0, .int .i64 0] 74 ?_; intro gb232 hg w4 hbox hb; have n_ := a4 (bl hb) hbox (gw w hg) (gw w hg); clear HB; obtain ⟨HB, BK232, GW232, GE232⟩ := n_; clear hb hbox hg; have ⟨_, _, _, _⟩ := cf2 BK232)))
  refine bodyPost_ret (results_ct rfl _ _ gb232 74 #[.int .i64 0, .int .i64 0] (0, 0) _ rfl (by (with_reducible repeat (first | refine blk_drewN ?_ _ | refine blk_drew ?_ | refine blk_alloc ?_ _)); refine blk_put (cs := #[.int .i64 0, .int .i64 0]) ?_ 1 _ rfl; (with_reducible repeat (first | refine blk_drewN ?_ _ | refine blk_drew ?_ | refine blk_alloc ?_ _)); refine blk_put (cs := #[.int .i64 0, .int .i64 0]) ?_ 0 _ rfl; exact bx BK232.out) Try.underlying74 rfl (by kernel_rfl)) rfl ?_
  exact ⟨er, lb⟩
 rw [if_neg c3] at H; have c3b := bn2 c3; replace H := Option.bind_eq_some_iff.mp H; obtain ⟨t233, A60, H⟩ := H; have A6 := ak A60; clear A60; replace H := Option.bind_eq_some_iff.mp H; obtain ⟨t234, A70, H⟩ := H; have A7 := ak A70; clear A70
 by_cases c8 : t233 = 0
 ·
  rw [if_pos c8] at H
  exact absurd H (by simp)
 rw [if_neg c8] at H; have c8b := bn2 c8; replace H := Option.bind_eq_some_iff.mp H; obtain ⟨t235, A90, H⟩ := H; have A9 := ak A90; clear A90; have HC10 := ak H; clear H
 go_enter Try.func77, Try.ntmps77
 go_upto_region 5 with (first | ((with_reducible refine gate_dst (N := 4) rfl ?_); refine bxe 4 #[.int .i64 0, .int .i64 0] 74 ?_; intro gb232 hg w11 hbox hb; have n_ := a4 (bl hb) hbox (gw w hg) (gw w hg); clear HB; obtain ⟨HB, BK232, GW232, GE232⟩ := n_; clear hb hbox hg) | (go_at_call 41; (with_reducible refine (safeint_Gcd.calls k a0 a1 t233 _ A6.out).mono ?_); rintro e w' ⟨rfl, ⟨nd, rfl⟩⟩; (try first | exact ⟨rfl, _, World.drewN_drewN _ _ _⟩ | exact ⟨rfl, _, Eq.trans (World.drewN_drewN _ _ _) (congrArg (World.drewN _) (Nat.add_assoc _ _ _))⟩)) | (go_at_call 80; (with_reducible refine (safeint_size.calls a0 t234 _ A7.out).mono ?_); rintro e w' ⟨rfl, ⟨nd, rfl⟩⟩; (try first | exact ⟨rfl, _, World.drewN_drewN _ _ _⟩ | exact ⟨rfl, _, Eq.trans (World.drewN_drewN _ _ _) (congrArg (World.drewN _) (Nat.add_assoc _ _ _))⟩)) | (go_at_call 80; (with_reducible refine (safeint_size.calls a1 t235 _ A9.out).mono ?_); rintro e w' ⟨rfl, ⟨nd, rfl⟩⟩; (try first | exact ⟨rfl, _, World.drewN_drewN _ _ _⟩ | exact ⟨rfl, _, Eq.trans (World.drewN_drewN _ _ _) (congrArg (World.drewN _) (Nat.add_assoc _ _ _))⟩)))
 repeat (go_quiet (first | ((with_reducible refine gate_dst (N := 4) rfl ?_); refine bxe 4 #[.int .i64 0, .int .i64 0] 74 ?_; intro gb232 hg w11 hbox hb; have n_ := a4 (bl hb) hbox (gw w hg) (gw w hg); clear HB; obtain ⟨HB, BK232, GW232, GE232⟩ := n_; clear hb hbox hg) | (go_at_call 41; (with_reducible refine (safeint_Gcd.calls k a0 a1 t233 _ A6.out).mono ?_); rintro e w' ⟨rfl, ⟨nd, rfl⟩⟩; (try first | exact ⟨rfl, _, World.drewN_drewN _ _ _⟩ | exact ⟨rfl, _, Eq.trans (World.drewN_drewN _ _ _) (congrArg (World.drewN _) (Nat.add_assoc _ _ _))⟩)) | (go_at_call 80; (with_reducible refine (safeint_size.calls a0 t234 _ A7.out).mono ?_); rintro e w' ⟨rfl, ⟨nd, rfl⟩⟩; (try first | exact ⟨rfl, _, World.drewN_drewN _ _ _⟩ | exact ⟨rfl, _, Eq.trans (World.drewN_drewN _ _ _) (congrArg (World.drewN _) (Nat.add_assoc _ _ _))⟩)) | (go_at_call 80; (with_reducible refine (safeint_size.calls a1 t235 _ A9.out).mono ?_); rintro e w' ⟨rfl, ⟨nd, rfl⟩⟩; (try first | exact ⟨rfl, _, World.drewN_drewN _ _ _⟩ | exact ⟨rfl, _, Eq.trans (World.drewN_drewN _ _ _) (congrArg (World.drewN _) (Nat.add_assoc _ _ _))⟩))); go_upto_region 5 with (first | ((with_reducible refine gate_dst (N := 4) rfl ?_); refine bxe 4 #[.int .i64 0, .int .i64 0] 74 ?_; intro gb232 hg w11 hbox hb; have n_ := a4 (bl hb) hbox (gw w hg) (gw w hg); clear HB; obtain ⟨HB, BK232, GW232, GE232⟩ := n_; clear hb hbox hg) | (go_at_call 41; (with_reducible refine (safeint_Gcd.calls k a0 a1 t233 _ A6.out).mono ?_); rintro e w' ⟨rfl, ⟨nd, rfl⟩⟩; (try first | exact ⟨rfl, _, World.drewN_drewN _ _ _⟩ | exact ⟨rfl, _, Eq.trans (World.drewN_drewN _ _ _) (congrArg (World.drewN _) (Nat.add_assoc _ _ _))⟩)) | (go_at_call 80; (with_reducible refine (safeint_size.calls a0 t234 _ A7.out).mono ?_); rintro e w' ⟨rfl, ⟨nd, rfl⟩⟩; (try first | exact ⟨rfl, _, World.drewN_drewN _ _ _⟩ | exact ⟨rfl, _, Eq.trans (World.drewN_drewN _ _ _) (congrArg (World.drewN _) (Nat.add_assoc _ _ _))⟩)) | (go_at_call 80; (with_reducible refine (safeint_size.calls a1 t235 _ A9.out).mono ?_); rintro e w' ⟨rfl, ⟨nd, rfl⟩⟩; (try first | exact ⟨rfl, _, World.drewN_drewN _ _ _⟩ | exact ⟨rfl, _, Eq.trans (World.drewN_drewN _ _ _) (congrArg (World.drewN _) (Nat.add_assoc _ _ _))⟩))))
 (try simp only [Act.put, sA, sZ, sS])
 go_cut [9] (fun v9 wc => ∃ (kq : Nat) (x9_9 : Bool), v9 = .bool x9_9 ∧ Aside0 (safeint_NewRatio.j0 kq (IntKind.u64.wrap (Int.tdiv t234 t233)) (IntKind.u64.wrap (Int.tdiv t235 t233)) x9_9 = some (r1, r2, r3)) ∧ Aside0 (kq ≤ k) ∧ Aside0 (wc.heap[gb232]? = some (.cells #[.int .i64 0, .int .i64 0] 74 (0, 0))) ∧ Aside0 (Below w.heap.size w wc))
 case first =>
  have H := HC10.out; clear HC10
  by_cases c12 : ((decide (a0 < 0)) != (decide (a1 < 0))) = true
  rotate_left
  ·
   rw [if_neg c12] at H; have c12b0 : ((decide (a0 < 0)) != (decide (a1 < 0))) = false := by simpa using c12
   (try (have c12b1 : decide ((decide (a0 < 0)) = (decide (a1 < 0))) = true := by simpa using c12))
   (try (have c12b2 : ((decide (a0 < 0)) == (decide (a1 < 0))) = true := by simpa using c12))
   clear c12
   (first | rw [c12b0] | (simp only [i64_w, i32_w]; rw [c12b0]) | skip)
   have H' := ak H; clear H
   go_wp2
   repeat (go_quiet (fail); try go_wp2)
   go_meet
   case rel => exact ⟨_, (false), sr, H', ⟨by first | omega | exact Nat.le_refl _⟩, xb BK232, ⟨lb⟩⟩
  rw [if_pos c12] at H; have c12b0 : ((decide (a0 < 0)) != (decide (a1 < 0))) = true := c12
  (try (have c12b1 : decide ((decide (a0 < 0)) = (decide (a1 < 0))) = false := by simpa using c12))
  (try (have c12b2 : ((decide (a0 < 0)) == (decide (a1 < 0))) = false := by simpa using c12))
  (try (have c12b3 : ¬ ((decide (a0 < 0)) = (decide (a1 < 0))) := by simpa using c12))
  clear c12
  (first | rw [c12b0] | (simp only [i64_w, i32_w]; rw [c12b0]) | skip)
  have H' := ak H; clear H
  go_wp2
  repeat (go_quiet (fail); try go_wp2)
  go_meet
  case rel => exact ⟨_, ((a0 != 0)), sr, H', ⟨by first | omega | exact Nat.le_refl _⟩, xb BK232, ⟨lb⟩⟩
 case rest =>
  clear HC10; obtain ⟨kq, x9_9, rfl, HA, HJ9, BK232, HB⟩ := hcut
  cases kq with
  | zero => exact absurd HA.out (by simp [safeint_NewRatio.j0])
  | succ kj9 =>
   have H := HA.out; clear HA
   simp only [safeint_NewRatio.j0] at H
   have HC13 := ak H; clear H
   go_upto_region 6 with (fail)
   repeat (go_quiet (fail); go_upto_region 6 with (fail))
   go_cut [46] (fun v46 wc => ∃ (kq : Nat) (x46_12 : Bool), v46 = .bool x46_12 ∧ Aside0 (safeint_NewRatio.j1 kq (IntKind.u64.wrap (Int.tdiv t234 t233)) (IntKind.u64.wrap (Int.tdiv t235 t233)) x9_9 x46_12 = some (r1, r2, r3)) ∧ Aside0 (kq ≤ kj9) ∧ Aside0 (wc.heap[gb232]? = some (.cells #[.int .i64 0, .int .i64 0] 74 (0, 0))) ∧ Aside0 (Below w.heap.size w wc))
   case first =>
    have H := HC13.out; clear HC13
    by_cases c14 : (IntKind.u64.wrap (Int.tdiv t235 t233)) > 9223372036854775807
    ·
     rw [if_pos c14] at H; have c14b0 := decide_eq_true c14; clear c14
     (first | rw [c14b0] | (simp only [i64_w, i32_w]; rw [c14b0]) | skip)
     have H' := ak H; clear H
     go_wp2
     repeat (go_quiet (fail); try go_wp2)
     go_meet
     case rel => exact ⟨_, (true), sr, H', ⟨by have := HJ9.out; first | omega | exact Nat.le_refl _⟩, xb BK232, ⟨lb⟩⟩
    rw [if_neg c14] at H; have c14b0 := decide_eq_false c14; clear c14
    (first | rw [c14b0] | (simp only [i64_w, i32_w]; rw [c14b0]) | skip)
    by_cases c15 : (IntKind.u64.wrap (Int.tdiv t234 t233)) > 9223372036854775807
    rotate_left
    ·
     rw [if_neg c15] at H; have c15b0 := decide_eq_false c15; clear c15; have H' := ak H; clear H
     go_wp2
     repeat (go_quiet (fail); try go_wp2)
     go_meet
     case rel => exact ⟨_, (false), sr, H', ⟨by have := HJ9.out; first | omega | exact Nat.le_refl _⟩, xb BK232, ⟨lb⟩⟩
    rw [if_pos c15] at H; have c15b0 := decide_eq_true c15; clear c15
    by_cases c16 : x9_9 = true
    ·
     subst c16
     replace H := ip H; have H' := ak H; clear H
     go_wp2
     repeat (go_quiet (fail); try go_wp2)
     go_meet
     case rel => exact ⟨_, (!((IntKind.u64.wrap (Int.tdiv t234 t233)) == 9223372036854775808)), sr, H', ⟨by have := HJ9.out; first | omega | exact Nat.le_refl _⟩, xb BK232, ⟨lb⟩⟩
    replace c16 := Bool.eq_false_iff.mpr c16; subst c16
    have H1 : (safeint_NewRatio.j1 kj9 (IntKind.u64.wrap (Int.tdiv t234 t233)) (IntKind.u64.wrap (Int.tdiv t235 t233)) false (!false)) = some (r1, r2, r3) := by rw [if_neg (show ¬ (false = true) by decide)] at H; exact H
    clear H; have H := H1; clear H1; have H' := ak H; clear H
    go_wp2
    repeat (go_quiet (fail); try go_wp2)
    go_meet
    case rel => exact ⟨_, (!false), sr, H', ⟨by have := HJ9.out; first | omega | exact Nat.le_refl _⟩, xb BK232, ⟨lb⟩⟩
   case rest =>
    clear HC13; obtain ⟨kq, x46_12, rfl, HA, HJ12, BK232, HB⟩ := hcut
    cases kq with
    | zero => exact absurd HA.out (by simp [safeint_NewRatio.j1])
    | succ kj12 =>
     have H := HA.out; clear HA
     simp only [safeint_NewRatio.j1] at H
     by_cases c17 : x46_12 = true
     ·
      subst c17
      replace H := ip H
      simp only [Option.some.injEq, Prod.mk.injEq] at H
      obtain ⟨rfl, rfl, rfl⟩ := H; have ⟨_, _, _, _⟩ := cf2 BK232
      go_wp2
      repeat (go_quiet (fail); try go_wp2)
      refine bodyPost_ret (results_ct rfl _ _ gb232 74 #[.int .i64 0, .int .i64 0] (0, 0) _ rfl (by (with_reducible repeat (first | refine blk_drewN ?_ _ | refine blk_drew ?_ | refine blk_alloc ?_ _)); refine blk_put (cs := #[.int .i64 0, .int .i64 0]) ?_ 1 _ rfl; (with_reducible repeat (first | refine blk_drewN ?_ _ | refine blk_drew ?_ | refine blk_alloc ?_ _)); refine blk_put (cs := #[.int .i64 0, .int .i64 0]) ?_ 0 _ rfl; exact bx BK232.out) Try.underlying74 rfl (by kernel_rfl)) rfl ?_
      exact ⟨er, lb⟩
     replace c17 := Bool.eq_false_iff.mpr c17; subst c17
     have H1 : (if x9_9 = true then (some (wrap64 (IntKind.u64.wrap (-(IntKind.u64.wrap (Int.tdiv t234 t233)))), wrap64 ((IntKind.u64.wrap (Int.tdiv t235 t233))), 0)) else (some (wrap64 ((IntKind.u64.wrap (Int.tdiv t234 t233))), wrap64 ((IntKind.u64.wrap (Int.tdiv t235 t233))), 0))) = some (r1, r2, r3) := by rw [if_neg (show ¬ (false = true) by decide)] at H; exact H
     clear H; have H := H1; clear H1
     by_cases c19 : x9_9 = true
     ·
      subst c19
      replace H := ip H
      simp only [Option.some.injEq, Prod.mk.injEq] at H
      obtain ⟨rfl, rfl, rfl⟩ := H; have ⟨_, _, _, _⟩ := cf2 BK232
      go_wp2
      repeat (go_quiet (fail); try go_wp2)
      refine bodyPost_ret (results_ct rfl _ _ gb232 74 #[.int .i64 (wrap64 (IntKind.u64.wrap (-(IntKind.u64.wrap (Int.tdiv t234 t233))))), .int .i64 (wrap64 ((IntKind.u64.wrap (Int.tdiv t235 t233))))] (0, 0) _ rfl (by (with_reducible repeat (first | refine blk_drewN ?_ _ | refine blk_drew ?_ | refine blk_alloc ?_ _)); refine blk_put (cs := #[.int .i64 (wrap64 (IntKind.u64.wrap (-(IntKind.u64.wrap (Int.tdiv t234 t233))))), .int .i64 0]) ?_ 1 _ rfl; (with_reducible repeat (first | refine blk_drewN ?_ _ | refine blk_drew ?_ | refine blk_alloc ?_ _)); refine blk_put (cs := #[.int .i64 0, .int .i64 0]) ?_ 0 _ rfl; exact bx BK232.out) Try.underlying74 rfl (by kernel_rfl)) rfl ?_
      exact ⟨er, lb⟩
     replace c19 := Bool.eq_false_iff.mpr c19; subst c19
     have H1 : (some (wrap64 ((IntKind.u64.wrap (Int.tdiv t234 t233))), wrap64 ((IntKind.u64.wrap (Int.tdiv t235 t233))), 0)) = some (r1, r2, r3) := by rw [if_neg (show ¬ (false = true) by decide)] at H; exact H
     clear H; have H := H1; clear H1
     simp only [Option.some.injEq, Prod.mk.injEq] at H
     obtain ⟨rfl, rfl, rfl⟩ := H; have ⟨_, _, _, _⟩ := cf2 BK232
     go_wp2
     repeat (go_quiet (fail); try go_wp2)
     refine bodyPost_ret (results_ct rfl _ _ gb232 74 #[.int .i64 (wrap64 ((IntKind.u64.wrap (Int.tdiv t234 t233)))), .int .i64 (wrap64 ((IntKind.u64.wrap (Int.tdiv t235 t233))))] (0, 0) _ rfl (by (with_reducible repeat (first | refine blk_drewN ?_ _ | refine blk_drew ?_ | refine blk_alloc ?_ _)); refine blk_put (cs := #[.int .i64 (wrap64 ((IntKind.u64.wrap (Int.tdiv t234 t233)))), .int .i64 0]) ?_ 1 _ rfl; (with_reducible repeat (first | refine blk_drewN ?_ _ | refine blk_drew ?_ | refine blk_alloc ?_ _)); refine blk_put (cs := #[.int .i64 0, .int .i64 0]) ?_ 0 _ rfl; exact bx BK232.out) Try.underlying74 rfl (by kernel_rfl)) rfl ?_
     exact ⟨er, lb⟩

end Go.Proofs.Ytkdoihcjhccliaa.Q
