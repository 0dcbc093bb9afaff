import Derived.Test.YtkdoihcjhccliaaK
import Derived.Test.YtkdoihcjhccliaaQ0
import Derived.Test.YtkdoihcjhccliaaQ57
namespace Go.Proofs.Ytkdoihcjhccliaa.Q
open Go.RowKit Go.Proofs.YtkdoihcjhccliaaW.PrintWords Go.Proofs.YtkdoihcjhccliaaW.PrintLast Go.Proofs.YtkdoihcjhccliaaW.PrintMore
attribute [local go_sem] dF dG eG eH cz cB dH dI   -- for this text's walks alone
set_option linter.unusedVariables false
set_option linter.unusedSimpArgs false

/-! ### dE: function 77 -/
mutual
def dE.j0 : Nat → Int → Int → Bool → Option (Int × Int × Int)
  | 0, _, _, _ => none
  | k + 1, x7, x8, x9 => if x8 > 9223372036854775807 then (dE.j1 k x7 x8 x9 true) else (if x7 > 9223372036854775807 then (if x9 = true then (dE.j1 k x7 x8 x9 (!(x7 == 9223372036854775808))) else (dE.j1 k x7 x8 x9 (!false))) else (dE.j1 k x7 x8 x9 false))
def dE.j1 : Nat → Int → Int → Bool → Bool → Option (Int × Int × Int)
  | 0, _, _, _, _ => none
  | k + 1, x7, x8, x9, x46 => if x46 = true then (some (0, 0, 10)) else (if x9 = true then (some (wrap64 (IntKind.u64.wrap (-x7)), wrap64 (x8), 0)) else (some (wrap64 (x7), wrap64 (x8), 0)))
end
def dE.f (k : Nat) (a0 : Int) (a1 : Int) : Option (Int × Int × Int) := if a1 = 0 then (some (0, 0, 11)) else ((ib.f k a0 a1).bind fun t233 => ((eT.f a0).bind fun t234 => (if t233 = 0 then (none) else ((eT.f a1).bind fun Gh => (if ((decide (a0 < 0)) != (decide (a1 < 0))) = true then (dE.j0 k (IntKind.u64.wrap (Int.tdiv t234 t233)) (IntKind.u64.wrap (Int.tdiv Gh t233)) (a0 != 0)) else (dE.j0 k (IntKind.u64.wrap (Int.tdiv t234 t233)) (IntKind.u64.wrap (Int.tdiv Gh t233)) false))))))
set_option maxHeartbeats 8000000 in
set_option maxRecDepth 100000 in
theorem dE.calls (k : Nat) (a0 : Int) (a1 : Int) (r1 : Int) (r2 : Int) (r3 : Int) (w : World) (h : dE.f k a0 a1 = some (r1, r2, r3)) :
    Calls Try.prog 77 #[.int .i64 a0, .int .i64 a1] w fun e w' => e = .returned (.tuple #[.agg #[.int .i64 r1, .int .i64 r2], .int .i64 r3]) ∧ Below w.heap.size w w' := by
 have hu74 := Try.underlying74; have HB := ak (Below.refl w.heap.size w); have H : (if a1 = 0 then (some (0, 0, 11)) else ((ib.f k a0 a1).bind fun t233 => ((eT.f a0).bind fun t234 => (if t233 = 0 then (none) else ((eT.f a1).bind fun Gh => (if ((decide (a0 < 0)) != (decide (a1 < 0))) = true then (dE.j0 k (IntKind.u64.wrap (Int.tdiv t234 t233)) (IntKind.u64.wrap (Int.tdiv Gh t233)) (a0 != 0)) else (dE.j0 k (IntKind.u64.wrap (Int.tdiv t234 t233)) (IntKind.u64.wrap (Int.tdiv Gh t233)) false))))))) = some (r1, r2, r3) := h; clear h
 by_cases c3 : a1 = 0
 ·
  rw [if_pos c3] at H; have c3b := be2 c3; clear c3
  simp only [Option.some.injEq, Prod.mk.injEq] at H
  obtain ⟨rfl, rfl, rfl⟩ := H
  go_enter Try.func77, Try.ntmps77
  go_wp2_with (first | ((with_reducible refine aC (N := 4) rfl ?_); refine bxe 4 #[.int .i64 0, .int .i64 0] 74 ?_; intro Bi hg w4 hbox hb; have n_ := a4 (bl hb) hbox (gw w hg) (gw w hg); clear HB; obtain ⟨HB, sN, OD, OE⟩ := n_; clear hb hbox hg; have ⟨_, _, _, _⟩ := cf2 sN))
  repeat (go_quiet (first | ((with_reducible refine aC (N := 4) rfl ?_); refine bxe 4 #[.int .i64 0, .int .i64 0] 74 ?_; intro Bi hg w4 hbox hb; have n_ := a4 (bl hb) hbox (gw w hg) (gw w hg); clear HB; obtain ⟨HB, sN, OD, OE⟩ := n_; clear hb hbox hg; have ⟨_, _, _, _⟩ := cf2 sN)); try go_wp2_with (first | ((with_reducible refine aC (N := 4) rfl ?_); refine bxe 4 #[.int .i64 0, .int .i64 0] 74 ?_; intro Bi hg w4 hbox hb; have n_ := a4 (bl hb) hbox (gw w hg) (gw w hg); clear HB; obtain ⟨HB, sN, OD, OE⟩ := n_; clear hb hbox hg; have ⟨_, _, _, _⟩ := cf2 sN)))
  refine bodyPost_ret (pX rfl _ _ Bi 74 #[.int .i64 0, .int .i64 0] (0, 0) _ rfl bz Try.underlying74 rfl (by kernel_rfl)) rfl ?_
  exact ⟨er, lb⟩
 rw [if_neg c3] at H; have c3b := bn2 c3; replace H := Option.bind_eq_some_iff.mp H; obtain ⟨t233, A60, H⟩ := H; have A6 := ak A60; clear A60; replace H := Option.bind_eq_some_iff.mp H; obtain ⟨t234, A70, H⟩ := H; have A7 := ak A70; clear A70
 by_cases c8 : t233 = 0
 ·
  rw [if_pos c8] at H
  exact absurd H (by simp)
 rw [if_neg c8] at H; have c8b := bn2 c8; replace H := Option.bind_eq_some_iff.mp H; obtain ⟨Gh, A90, H⟩ := H; have A9 := ak A90; clear A90; have HC10 := ak H; clear H
 go_enter Try.func77, Try.ntmps77
 go_upto_region 5 with (first | ((with_reducible refine aC (N := 4) rfl ?_); refine bxe 4 #[.int .i64 0, .int .i64 0] 74 ?_; intro Bi hg w11 hbox hb; have n_ := a4 (bl hb) hbox (gw w hg) (gw w hg); clear HB; obtain ⟨HB, sN, OD, OE⟩ := n_; clear hb hbox hg) | (go_at_call 41; (with_reducible refine (ib.calls k a0 a1 t233 _ A6.out).mono ?_); rintro e w' ⟨rfl, ⟨nd, rfl⟩⟩; (try first | exact ⟨rfl, _, World.drewN_drewN _ _ _⟩ | exact ⟨rfl, _, Eq.trans (World.drewN_drewN _ _ _) (congrArg (World.drewN _) (Nat.add_assoc _ _ _))⟩)) | (go_at_call 80; (with_reducible refine (eT.calls a0 t234 _ A7.out).mono ?_); rintro e w' ⟨rfl, ⟨nd, rfl⟩⟩; (try first | exact ⟨rfl, _, World.drewN_drewN _ _ _⟩ | exact ⟨rfl, _, Eq.trans (World.drewN_drewN _ _ _) (congrArg (World.drewN _) (Nat.add_assoc _ _ _))⟩)) | (go_at_call 80; (with_reducible refine (eT.calls a1 Gh _ A9.out).mono ?_); rintro e w' ⟨rfl, ⟨nd, rfl⟩⟩; (try first | exact ⟨rfl, _, World.drewN_drewN _ _ _⟩ | exact ⟨rfl, _, Eq.trans (World.drewN_drewN _ _ _) (congrArg (World.drewN _) (Nat.add_assoc _ _ _))⟩)))
 repeat (go_quiet (first | ((with_reducible refine aC (N := 4) rfl ?_); refine bxe 4 #[.int .i64 0, .int .i64 0] 74 ?_; intro Bi hg w11 hbox hb; have n_ := a4 (bl hb) hbox (gw w hg) (gw w hg); clear HB; obtain ⟨HB, sN, OD, OE⟩ := n_; clear hb hbox hg) | (go_at_call 41; (with_reducible refine (ib.calls k a0 a1 t233 _ A6.out).mono ?_); rintro e w' ⟨rfl, ⟨nd, rfl⟩⟩; (try first | exact ⟨rfl, _, World.drewN_drewN _ _ _⟩ | exact ⟨rfl, _, Eq.trans (World.drewN_drewN _ _ _) (congrArg (World.drewN _) (Nat.add_assoc _ _ _))⟩)) | (go_at_call 80; (with_reducible refine (eT.calls a0 t234 _ A7.out).mono ?_); rintro e w' ⟨rfl, ⟨nd, rfl⟩⟩; (try first | exact ⟨rfl, _, World.drewN_drewN _ _ _⟩ | exact ⟨rfl, _, Eq.trans (World.drewN_drewN _ _ _) (congrArg (World.drewN _) (Nat.add_assoc _ _ _))⟩)) | (go_at_call 80; (with_reducible refine (eT.calls a1 Gh _ A9.out).mono ?_); rintro e w' ⟨rfl, ⟨nd, rfl⟩⟩; (try first | exact ⟨rfl, _, World.drewN_drewN _ _ _⟩ | exact ⟨rfl, _, Eq.trans (World.drewN_drewN _ _ _) (congrArg (World.drewN _) (Nat.add_assoc _ _ _))⟩))); go_upto_region 5 with (first | ((with_reducible refine aC (N := 4) rfl ?_); refine bxe 4 #[.int .i64 0, .int .i64 0] 74 ?_; intro Bi hg w11 hbox hb; have n_ := a4 (bl hb) hbox (gw w hg) (gw w hg); clear HB; obtain ⟨HB, sN, OD, OE⟩ := n_; clear hb hbox hg) | (go_at_call 41; (with_reducible refine (ib.calls k a0 a1 t233 _ A6.out).mono ?_); rintro e w' ⟨rfl, ⟨nd, rfl⟩⟩; (try first | exact ⟨rfl, _, World.drewN_drewN _ _ _⟩ | exact ⟨rfl, _, Eq.trans (World.drewN_drewN _ _ _) (congrArg (World.drewN _) (Nat.add_assoc _ _ _))⟩)) | (go_at_call 80; (with_reducible refine (eT.calls a0 t234 _ A7.out).mono ?_); rintro e w' ⟨rfl, ⟨nd, rfl⟩⟩; (try first | exact ⟨rfl, _, World.drewN_drewN _ _ _⟩ | exact ⟨rfl, _, Eq.trans (World.drewN_drewN _ _ _) (congrArg (World.drewN _) (Nat.add_assoc _ _ _))⟩)) | (go_at_call 80; (with_reducible refine (eT.calls a1 Gh _ A9.out).mono ?_); rintro e w' ⟨rfl, ⟨nd, rfl⟩⟩; (try first | exact ⟨rfl, _, World.drewN_drewN _ _ _⟩ | exact ⟨rfl, _, Eq.trans (World.drewN_drewN _ _ _) (congrArg (World.drewN _) (Nat.add_assoc _ _ _))⟩))))
 (try simp only [Act.put, sA, sZ, sS])
 go_cut [9] (fun v9 wc => ∃ (kq : Nat) (Xu : Bool), v9 = .bool Xu ∧ ag (dE.j0 kq (IntKind.u64.wrap (Int.tdiv t234 t233)) (IntKind.u64.wrap (Int.tdiv Gh t233)) Xu = some (r1, r2, r3)) ∧ ag (kq ≤ k) ∧ ag (wc.heap[Bi]? = some (.cells #[.int .i64 0, .int .i64 0] 74 (0, 0))) ∧ ag (Below w.heap.size w wc))
 case first =>
  have H := HC10.out; clear HC10
  by_cases c12 : ((decide (a0 < 0)) != (decide (a1 < 0))) = true
  rotate_left
  ·
   rw [if_neg c12] at H; have c12b0 : ((decide (a0 < 0)) != (decide (a1 < 0))) = false := by simpa using c12
   (try (have c12b1 : decide ((decide (a0 < 0)) = (decide (a1 < 0))) = true := by simpa using c12))
   (try (have c12b2 : ((decide (a0 < 0)) == (decide (a1 < 0))) = true := by simpa using c12))
   clear c12
   (first | rw [c12b0] | (simp only [jA, jG]; rw [c12b0]) | skip)
   have H' := ak H; clear H
   go_wp2
   repeat (go_quiet (fail); try go_wp2)
   go_meet
   case rel => exact ⟨_, (false), sr, H', ⟨by first | omega | exact Nat.le_refl _⟩, xb sN, ⟨lb⟩⟩
  rw [if_pos c12] at H; have c12b0 : ((decide (a0 < 0)) != (decide (a1 < 0))) = true := c12
  (try (have c12b1 : decide ((decide (a0 < 0)) = (decide (a1 < 0))) = false := by simpa using c12))
  (try (have c12b2 : ((decide (a0 < 0)) == (decide (a1 < 0))) = false := by simpa using c12))
  (try (have c12b3 : ¬ ((decide (a0 < 0)) = (decide (a1 < 0))) := by simpa using c12))
  clear c12
  (first | rw [c12b0] | (simp only [jA, jG]; rw [c12b0]) | skip)
  have H' := ak H; clear H
  go_wp2
  repeat (go_quiet (fail); try go_wp2)
  go_meet
  case rel => exact ⟨_, ((a0 != 0)), sr, H', ⟨by first | omega | exact Nat.le_refl _⟩, xb sN, ⟨lb⟩⟩
 case rest =>
  clear HC10; obtain ⟨kq, Xu, rfl, HA, HJ9, sN, HB⟩ := hcut
  cases kq with
  | zero => exact absurd HA.out (by simp [dE.j0])
  | succ kj9 =>
   have H := HA.out; clear HA
   simp only [dE.j0] at H
   have HC13 := ak H; clear H
   go_upto_region 6 with (fail)
   repeat (go_quiet (fail); go_upto_region 6 with (fail))
   go_cut [46] (fun v46 wc => ∃ (kq : Nat) (J6 : Bool), v46 = .bool J6 ∧ ag (dE.j1 kq (IntKind.u64.wrap (Int.tdiv t234 t233)) (IntKind.u64.wrap (Int.tdiv Gh t233)) Xu J6 = some (r1, r2, r3)) ∧ ag (kq ≤ kj9) ∧ ag (wc.heap[Bi]? = some (.cells #[.int .i64 0, .int .i64 0] 74 (0, 0))) ∧ ag (Below w.heap.size w wc))
   case first =>
    have H := HC13.out; clear HC13
    by_cases c14 : (IntKind.u64.wrap (Int.tdiv Gh t233)) > 9223372036854775807
    ·
     rw [if_pos c14] at H; have c14b0 := decide_eq_true c14; clear c14
     (first | rw [c14b0] | (simp only [jA, jG]; rw [c14b0]) | skip)
     have H' := ak H; clear H
     go_wp2
     repeat (go_quiet (fail); try go_wp2)
     go_meet
     case rel => exact ⟨_, (true), sr, H', ⟨by have := HJ9.out; first | omega | exact Nat.le_refl _⟩, xb sN, ⟨lb⟩⟩
    rw [if_neg c14] at H; have c14b0 := decide_eq_false c14; clear c14
    (first | rw [c14b0] | (simp only [jA, jG]; rw [c14b0]) | skip)
    by_cases c15 : (IntKind.u64.wrap (Int.tdiv t234 t233)) > 9223372036854775807
    rotate_left
    ·
     rw [if_neg c15] at H; have c15b0 := decide_eq_false c15; clear c15; have H' := ak H; clear H
     go_wp2
     repeat (go_quiet (fail); try go_wp2)
     go_meet
     case rel => exact ⟨_, (false), sr, H', ⟨by have := HJ9.out; first | omega | exact Nat.le_refl _⟩, xb sN, ⟨lb⟩⟩
    rw [if_pos c15] at H; have c15b0 := decide_eq_true c15; clear c15
    by_cases c16 : Xu = true
    ·
     subst c16
     replace H := ip H; have H' := ak H; clear H
     go_wp2
     repeat (go_quiet (fail); try go_wp2)
     go_meet
     case rel => exact ⟨_, (!((IntKind.u64.wrap (Int.tdiv t234 t233)) == 9223372036854775808)), sr, H', ⟨by have := HJ9.out; first | omega | exact Nat.le_refl _⟩, xb sN, ⟨lb⟩⟩
    replace c16 := Bool.eq_false_iff.mpr c16; subst c16
    have H1 : (dE.j1 kj9 (IntKind.u64.wrap (Int.tdiv t234 t233)) (IntKind.u64.wrap (Int.tdiv Gh t233)) false (!false)) = some (r1, r2, r3) := by rw [if_neg (show ¬ (false = true) by decide)] at H; exact H
    clear H; have H := H1; clear H1; have H' := ak H; clear H
    go_wp2
    repeat (go_quiet (fail); try go_wp2)
    go_meet
    case rel => exact ⟨_, (!false), sr, H', ⟨by have := HJ9.out; first | omega | exact Nat.le_refl _⟩, xb sN, ⟨lb⟩⟩
   case rest =>
    clear HC13; obtain ⟨kq, J6, rfl, HA, HJ12, sN, HB⟩ := hcut
    cases kq with
    | zero => exact absurd HA.out (by simp [dE.j1])
    | succ kj12 =>
     have H := HA.out; clear HA
     simp only [dE.j1] at H
     by_cases c17 : J6 = true
     ·
      subst c17
      replace H := ip H
      simp only [Option.some.injEq, Prod.mk.injEq] at H
      obtain ⟨rfl, rfl, rfl⟩ := H; have ⟨_, _, _, _⟩ := cf2 sN
      go_wp2
      repeat (go_quiet (fail); try go_wp2)
      refine bodyPost_ret (pX rfl _ _ Bi 74 #[.int .i64 0, .int .i64 0] (0, 0) _ rfl bz Try.underlying74 rfl (by kernel_rfl)) rfl ?_
      exact ⟨er, lb⟩
     replace c17 := Bool.eq_false_iff.mpr c17; subst c17
     have H1 : (if Xu = true then (some (wrap64 (IntKind.u64.wrap (-(IntKind.u64.wrap (Int.tdiv t234 t233)))), wrap64 ((IntKind.u64.wrap (Int.tdiv Gh t233))), 0)) else (some (wrap64 ((IntKind.u64.wrap (Int.tdiv t234 t233))), wrap64 ((IntKind.u64.wrap (Int.tdiv Gh t233))), 0))) = some (r1, r2, r3) := by rw [if_neg (show ¬ (false = true) by decide)] at H; exact H
     clear H; have H := H1; clear H1
     by_cases c19 : Xu = true
     ·
      subst c19
      replace H := ip H
      simp only [Option.some.injEq, Prod.mk.injEq] at H
      obtain ⟨rfl, rfl, rfl⟩ := H; have ⟨_, _, _, _⟩ := cf2 sN
      go_wp2
      repeat (go_quiet (fail); try go_wp2)
      refine bodyPost_ret (pX rfl _ _ Bi 74 #[.int .i64 (wrap64 (IntKind.u64.wrap (-(IntKind.u64.wrap (Int.tdiv t234 t233))))), .int .i64 (wrap64 ((IntKind.u64.wrap (Int.tdiv Gh t233))))] (0, 0) _ rfl bz Try.underlying74 rfl (by kernel_rfl)) rfl ?_
      exact ⟨er, lb⟩
     replace c19 := Bool.eq_false_iff.mpr c19; subst c19
     have H1 : (some (wrap64 ((IntKind.u64.wrap (Int.tdiv t234 t233))), wrap64 ((IntKind.u64.wrap (Int.tdiv Gh t233))), 0)) = some (r1, r2, r3) := by rw [if_neg (show ¬ (false = true) by decide)] at H; exact H
     clear H; have H := H1; clear H1
     simp only [Option.some.injEq, Prod.mk.injEq] at H
     obtain ⟨rfl, rfl, rfl⟩ := H; have ⟨_, _, _, _⟩ := cf2 sN
     go_wp2
     repeat (go_quiet (fail); try go_wp2)
     refine bodyPost_ret (pX rfl _ _ Bi 74 #[.int .i64 (wrap64 ((IntKind.u64.wrap (Int.tdiv t234 t233)))), .int .i64 (wrap64 ((IntKind.u64.wrap (Int.tdiv Gh t233))))] (0, 0) _ rfl bz Try.underlying74 rfl (by kernel_rfl)) rfl ?_
     exact ⟨er, lb⟩

end Go.Proofs.Ytkdoihcjhccliaa.Q
