import Derived.Test.YtkdoihcjhccliaaQ0
import Derived.Test.YtkdoihcjhccliaaQ21
import Derived.Test.YtkdoihcjhccliaaQ27
import Derived.Test.YtkdoihcjhccliaaQ28
namespace Go.Proofs.Ytkdoihcjhccliaa.Q
open Go.RowKit Go.Proofs.YtkdoihcjhccliaaW.PrintWords Go.Proofs.YtkdoihcjhccliaaW.PrintLast Go.Proofs.YtkdoihcjhccliaaW.PrintMore
attribute [local go_sem] max2_int min2_int max_two min_two max_three min_three max_four min_four   -- for this text's walks alone
set_option linter.unusedVariables false
set_option linter.unusedSimpArgs false

/-! ### compassref11_Cheapest: function 23 -/
mutual
def compassref11_Cheapest.j0 : Nat → List Int → List Int → Bool → Int → List (S98) → Option (Int × Int)
  | 0, _, _, _, _, _ => none
  | k + 1, x2, x3, x29, x376000, x376001 => if x29 = true then (some (0, 221)) else (compassref11_Cheapest.l0 k x2 x3 0 x376000 x376001)
def compassref11_Cheapest.l0 : Nat → List Int → List Int → Int → Int → List (S98) → Option (Int × Int)
  | 0, _, _, _, _, _ => none
  | k + 1, x2, x3, x11, x376000, x376001 => if x11 < (x2.length : Int) then (if 0 ≤ x11 then (if x11 < (x376001.length : Int) then ((compassref11_Reduced.f ((rd_T98 x376001 x11).f0) ((rd_T98 x376001 x11).f1) ((rd_T98 x376001 x11).f2) ((rd_T98 x376001 x11).f3) x3).bind fun t380 => (if t380 > 0 then (if (rd x2 x11) > 0 then (some (0, 221)) else (if t380 < 0 then (if (rd x2 x11) < ((rd_T98 x376001 x11).f2) then (some (0, 221)) else (compassref11_Cheapest.l0 k x2 x3 (wrap64 (x11 + 1)) x376000 x376001)) else (compassref11_Cheapest.l0 k x2 x3 (wrap64 (x11 + 1)) x376000 x376001))) else (if t380 < 0 then (if (rd x2 x11) < ((rd_T98 x376001 x11).f2) then (some (0, 221)) else (compassref11_Cheapest.l0 k x2 x3 (wrap64 (x11 + 1)) x376000 x376001)) else (compassref11_Cheapest.l0 k x2 x3 (wrap64 (x11 + 1)) x376000 x376001)))) else (none)) else (none)) else ((compassref11_Total.f k x376000 x376001 x2).bind fun t386 => (some (t386, 0)))
end
def compassref11_Cheapest.f (k : Nat) (a0_0 : Int) (l0_1 : List (S98)) (l1 : List Int) (l2 : List Int) (l3 : List Int) : Option (Int × Int) := (compassref11_Supplies.f k a0_0 l0_1 l1).bind fun t376 => (if t376 = 0 then ((compassref11_Fits.f k a0_0 l0_1 l2 l1).bind fun t377 => (if t377 = true then ((compassref11_Pots.f k a0_0 l0_1 l3).bind fun t378 => (compassref11_Cheapest.j0 k l2 l3 (!t378) a0_0 l0_1)) else (compassref11_Cheapest.j0 k l2 l3 true a0_0 l0_1))) else (some (0, t376)))
set_option maxHeartbeats 8000000 in
set_option maxRecDepth 100000 in
theorem compassref11_Cheapest.calls (k : Nat) (a0_0 : Int) (A0_1 : Option Addr) (c0_1 : Nat) (l0_1 : List (S98)) (A1 : Option Addr) (c1 : Nat) (l1 : List Int) (A2 : Option Addr) (c2 : Nat) (l2 : List Int) (A3 : Option Addr) (c3 : Nat) (l3 : List Int) (r1 : Int) (r2 : Int) (w : World) (hr0_1 : Kd.C k98 w A0_1 l0_1.length l0_1) (hc0_1 : l0_1.length ≤ c0_1) (hr1 : Kd.C (Kd.int .i64) w A1 l1.length l1) (hc1 : l1.length ≤ c1) (hr2 : Kd.C (Kd.int .i64) w A2 l2.length l2) (hc2 : l2.length ≤ c2) (hr3 : Kd.C (Kd.int .i64) w A3 l3.length l3) (hc3 : l3.length ≤ c3) (h : compassref11_Cheapest.f k a0_0 l0_1 l1 l2 l3 = some (r1, r2)) :
    Calls Try.prog 23 #[.agg #[.int .i64 a0_0, .slice A0_1 l0_1.length c0_1], .slice A1 l1.length c1, .slice A2 l2.length c2, .slice A3 l3.length c3] w fun e w' => e = .returned (.tuple #[.int .i64 r1, .int .i64 r2]) ∧ Below w.heap.size w w' := by
 have hu24 := Try.underlying24; have hu98 := Try.underlying98; have HR0_1 := ak hr0_1; have HC0_1 := ak hc0_1; clear hr0_1 hc0_1; have HR1 := ak hr1; have HC1 := ak hc1; clear hr1 hc1; have HR2 := ak hr2; have HC2 := ak hc2; clear hr2 hc2; have HR3 := ak hr3; have HC3 := ak hc3; clear hr3 hc3; have HB := ak (Below.refl w.heap.size w); have H : ((compassref11_Supplies.f k a0_0 l0_1 l1).bind fun t376 => (if t376 = 0 then ((compassref11_Fits.f k a0_0 l0_1 l2 l1).bind fun t377 => (if t377 = true then ((compassref11_Pots.f k a0_0 l0_1 l3).bind fun t378 => (compassref11_Cheapest.j0 k l2 l3 (!t378) a0_0 l0_1)) else (compassref11_Cheapest.j0 k l2 l3 true a0_0 l0_1))) else (some (0, t376)))) = some (r1, r2) := h; clear h; replace H := Option.bind_eq_some_iff.mp H; obtain ⟨t376, A50, H⟩ := H; have A5 := ak A50; clear A50
 by_cases c6 : t376 = 0
 rotate_left
 ·
  rw [if_neg c6] at H; have c6b := bn2 c6
  simp only [Option.some.injEq, Prod.mk.injEq] at H
  obtain ⟨rfl, rfl⟩ := H
  go_enter Try.func23, Try.ntmps23
  go_wp2_with (first | ((with_reducible refine gate_dst (N := 4) rfl ?_); refine bxe 4 #[.int .i64 a0_0, .slice A0_1 l0_1.length c0_1] 24 ?_; intro gb375 hg w52 hbox hb; have n_ := a4 (bl hb) hbox (gw w hg) (gw w hg); clear HB; obtain ⟨HB, BK375, GW375, GE375⟩ := n_; clear hb hbox hg; have ⟨_, _, _, _⟩ := cf2 BK375) | (go_at_call 33; (with_reducible refine (compassref11_Supplies.calls k a0_0 _ _ l0_1 _ _ l1 t376 _ (Kd.C_below HR0_1.out lb) HC0_1.out (Kd.C_below HR1.out lb) HC1.out A5.out).mono ?_); rintro e w54 ⟨rfl, hb⟩; have n_ := a2 (bo BK375 hb) (bl hb); clear BK375 HB; obtain ⟨BK375, HB⟩ := n_; clear hb))
  repeat (go_quiet (first | ((with_reducible refine gate_dst (N := 4) rfl ?_); refine bxe 4 #[.int .i64 a0_0, .slice A0_1 l0_1.length c0_1] 24 ?_; intro gb375 hg w52 hbox hb; have n_ := a4 (bl hb) hbox (gw w hg) (gw w hg); clear HB; obtain ⟨HB, BK375, GW375, GE375⟩ := n_; clear hb hbox hg; have ⟨_, _, _, _⟩ := cf2 BK375) | (go_at_call 33; (with_reducible refine (compassref11_Supplies.calls k a0_0 _ _ l0_1 _ _ l1 t376 _ (Kd.C_below HR0_1.out lb) HC0_1.out (Kd.C_below HR1.out lb) HC1.out A5.out).mono ?_); rintro e w54 ⟨rfl, hb⟩; have n_ := a2 (bo BK375 hb) (bl hb); clear BK375 HB; obtain ⟨BK375, HB⟩ := n_; clear hb)); try go_wp2_with (first | ((with_reducible refine gate_dst (N := 4) rfl ?_); refine bxe 4 #[.int .i64 a0_0, .slice A0_1 l0_1.length c0_1] 24 ?_; intro gb375 hg w52 hbox hb; have n_ := a4 (bl hb) hbox (gw w hg) (gw w hg); clear HB; obtain ⟨HB, BK375, GW375, GE375⟩ := n_; clear hb hbox hg; have ⟨_, _, _, _⟩ := cf2 BK375) | (go_at_call 33; (with_reducible refine (compassref11_Supplies.calls k a0_0 _ _ l0_1 _ _ l1 t376 _ (Kd.C_below HR0_1.out lb) HC0_1.out (Kd.C_below HR1.out lb) HC1.out A5.out).mono ?_); rintro e w54 ⟨rfl, hb⟩; have n_ := a2 (bo BK375 hb) (bl hb); clear BK375 HB; obtain ⟨BK375, HB⟩ := n_; clear hb)))
  go_ret2
  exact ⟨er, lb⟩

 rw [if_pos c6] at H; have c6b := be2 c6; clear c6; have HC7 := ak H; clear H
 go_enter Try.func23, Try.ntmps23
 go_upto_region 4 with (first | ((with_reducible refine gate_dst (N := 4) rfl ?_); refine bxe 4 #[.int .i64 a0_0, .slice A0_1 l0_1.length c0_1] 24 ?_; intro gb375 hg w8 hbox hb; have n_ := a4 (bl hb) hbox (gw w hg) (gw w hg); clear HB; obtain ⟨HB, BK375, GW375, GE375⟩ := n_; clear hb hbox hg; have ⟨_, _, _, _⟩ := cf2 BK375) | (go_at_call 33; (with_reducible refine (compassref11_Supplies.calls k a0_0 _ _ l0_1 _ _ l1 t376 _ (Kd.C_below HR0_1.out lb) HC0_1.out (Kd.C_below HR1.out lb) HC1.out A5.out).mono ?_); rintro e w10 ⟨rfl, hb⟩; have n_ := a2 (bo BK375 hb) (bl hb); clear BK375 HB; obtain ⟨BK375, HB⟩ := n_; clear hb))
 repeat (go_quiet (first | ((with_reducible refine gate_dst (N := 4) rfl ?_); refine bxe 4 #[.int .i64 a0_0, .slice A0_1 l0_1.length c0_1] 24 ?_; intro gb375 hg w8 hbox hb; have n_ := a4 (bl hb) hbox (gw w hg) (gw w hg); clear HB; obtain ⟨HB, BK375, GW375, GE375⟩ := n_; clear hb hbox hg; have ⟨_, _, _, _⟩ := cf2 BK375) | (go_at_call 33; (with_reducible refine (compassref11_Supplies.calls k a0_0 _ _ l0_1 _ _ l1 t376 _ (Kd.C_below HR0_1.out lb) HC0_1.out (Kd.C_below HR1.out lb) HC1.out A5.out).mono ?_); rintro e w10 ⟨rfl, hb⟩; have n_ := a2 (bo BK375 hb) (bl hb); clear BK375 HB; obtain ⟨BK375, HB⟩ := n_; clear hb)); go_upto_region 4 with (first | ((with_reducible refine gate_dst (N := 4) rfl ?_); refine bxe 4 #[.int .i64 a0_0, .slice A0_1 l0_1.length c0_1] 24 ?_; intro gb375 hg w8 hbox hb; have n_ := a4 (bl hb) hbox (gw w hg) (gw w hg); clear HB; obtain ⟨HB, BK375, GW375, GE375⟩ := n_; clear hb hbox hg; have ⟨_, _, _, _⟩ := cf2 BK375) | (go_at_call 33; (with_reducible refine (compassref11_Supplies.calls k a0_0 _ _ l0_1 _ _ l1 t376 _ (Kd.C_below HR0_1.out lb) HC0_1.out (Kd.C_below HR1.out lb) HC1.out A5.out).mono ?_); rintro e w10 ⟨rfl, hb⟩; have n_ := a2 (bo BK375 hb) (bl hb); clear BK375 HB; obtain ⟨BK375, HB⟩ := n_; clear hb)))
 (try simp only [Act.put, sA, sZ, sS])
 go_cut [29] (fun v29 wc => ∃ (kq : Nat) (x29_6 : Bool), v29 = .bool x29_6 ∧ Aside0 (compassref11_Cheapest.j0 kq l2 l3 x29_6 a0_0 l0_1 = some (r1, r2)) ∧ Aside0 (kq ≤ k) ∧ Aside0 (wc.heap[gb375]? = some (.cells #[.int .i64 a0_0, (.slice A0_1 l0_1.length c0_1)] 24 (0, 0))) ∧ Aside0 (Below w.heap.size w wc))
 case first =>
  have H := HC7.out; clear HC7; replace H := Option.bind_eq_some_iff.mp H; obtain ⟨t377, A110, H⟩ := H; have A11 := ak A110; clear A110
  by_cases c12 : t377 = true
  ·
   subst c12
   replace H := ip H; replace H := Option.bind_eq_some_iff.mp H; obtain ⟨t378, A130, H⟩ := H; have A13 := ak A130; clear A130; have H' := ak H; clear H; have ⟨_, _, _, _⟩ := cf2 BK375
   go_wp2_with (first | (go_at_call 30; (with_reducible refine (compassref11_Fits.calls k a0_0 _ _ l0_1 _ _ l2 _ _ l1 true _ (Kd.C_below HR0_1.out lb) HC0_1.out (Kd.C_below HR2.out lb) HC2.out (Kd.C_below HR1.out lb) HC1.out A11.out).mono ?_); rintro e w15 ⟨rfl, hb⟩; have n_ := a2 (bo BK375 hb) (bl hb); clear BK375 HB; obtain ⟨BK375, HB⟩ := n_; clear hb; have ⟨_, _, _, _⟩ := cf2 BK375) | (go_at_call 63; (with_reducible refine (compassref11_Pots.calls k a0_0 _ _ l0_1 _ _ l3 t378 _ (Kd.C_below HR0_1.out lb) HC0_1.out (Kd.C_below HR3.out lb) HC3.out A13.out).mono ?_); rintro e w17 ⟨rfl, hb⟩; have n_ := a2 (bo BK375 hb) (bl hb); clear BK375 HB; obtain ⟨BK375, HB⟩ := n_; clear hb))
   repeat (go_quiet (first | (go_at_call 30; (with_reducible refine (compassref11_Fits.calls k a0_0 _ _ l0_1 _ _ l2 _ _ l1 true _ (Kd.C_below HR0_1.out lb) HC0_1.out (Kd.C_below HR2.out lb) HC2.out (Kd.C_below HR1.out lb) HC1.out A11.out).mono ?_); rintro e w15 ⟨rfl, hb⟩; have n_ := a2 (bo BK375 hb) (bl hb); clear BK375 HB; obtain ⟨BK375, HB⟩ := n_; clear hb; have ⟨_, _, _, _⟩ := cf2 BK375) | (go_at_call 63; (with_reducible refine (compassref11_Pots.calls k a0_0 _ _ l0_1 _ _ l3 t378 _ (Kd.C_below HR0_1.out lb) HC0_1.out (Kd.C_below HR3.out lb) HC3.out A13.out).mono ?_); rintro e w17 ⟨rfl, hb⟩; have n_ := a2 (bo BK375 hb) (bl hb); clear BK375 HB; obtain ⟨BK375, HB⟩ := n_; clear hb)); try go_wp2_with (first | (go_at_call 30; (with_reducible refine (compassref11_Fits.calls k a0_0 _ _ l0_1 _ _ l2 _ _ l1 true _ (Kd.C_below HR0_1.out lb) HC0_1.out (Kd.C_below HR2.out lb) HC2.out (Kd.C_below HR1.out lb) HC1.out A11.out).mono ?_); rintro e w15 ⟨rfl, hb⟩; have n_ := a2 (bo BK375 hb) (bl hb); clear BK375 HB; obtain ⟨BK375, HB⟩ := n_; clear hb; have ⟨_, _, _, _⟩ := cf2 BK375) | (go_at_call 63; (with_reducible refine (compassref11_Pots.calls k a0_0 _ _ l0_1 _ _ l3 t378 _ (Kd.C_below HR0_1.out lb) HC0_1.out (Kd.C_below HR3.out lb) HC3.out A13.out).mono ?_); rintro e w17 ⟨rfl, hb⟩; have n_ := a2 (bo BK375 hb) (bl hb); clear BK375 HB; obtain ⟨BK375, HB⟩ := n_; clear hb)))
   go_meet
   case rel => exact ⟨_, (!t378), sr, H', ⟨by first | omega | exact Nat.le_refl _⟩, xb BK375, ⟨lb⟩⟩
  replace c12 := Bool.eq_false_iff.mpr c12; subst c12
  have H1 : (compassref11_Cheapest.j0 k l2 l3 true a0_0 l0_1) = some (r1, r2) := by rw [if_neg (show ¬ (false = true) by decide)] at H; exact H
  clear H; have H := H1; clear H1; have H' := ak H; clear H; have ⟨_, _, _, _⟩ := cf2 BK375
  go_wp2_with (first | (go_at_call 30; (with_reducible refine (compassref11_Fits.calls k a0_0 _ _ l0_1 _ _ l2 _ _ l1 false _ (Kd.C_below HR0_1.out lb) HC0_1.out (Kd.C_below HR2.out lb) HC2.out (Kd.C_below HR1.out lb) HC1.out A11.out).mono ?_); rintro e w19 ⟨rfl, hb⟩; have n_ := a2 (bo BK375 hb) (bl hb); clear BK375 HB; obtain ⟨BK375, HB⟩ := n_; clear hb))
  repeat (go_quiet (first | (go_at_call 30; (with_reducible refine (compassref11_Fits.calls k a0_0 _ _ l0_1 _ _ l2 _ _ l1 false _ (Kd.C_below HR0_1.out lb) HC0_1.out (Kd.C_below HR2.out lb) HC2.out (Kd.C_below HR1.out lb) HC1.out A11.out).mono ?_); rintro e w19 ⟨rfl, hb⟩; have n_ := a2 (bo BK375 hb) (bl hb); clear BK375 HB; obtain ⟨BK375, HB⟩ := n_; clear hb)); try go_wp2_with (first | (go_at_call 30; (with_reducible refine (compassref11_Fits.calls k a0_0 _ _ l0_1 _ _ l2 _ _ l1 false _ (Kd.C_below HR0_1.out lb) HC0_1.out (Kd.C_below HR2.out lb) HC2.out (Kd.C_below HR1.out lb) HC1.out A11.out).mono ?_); rintro e w19 ⟨rfl, hb⟩; have n_ := a2 (bo BK375 hb) (bl hb); clear BK375 HB; obtain ⟨BK375, HB⟩ := n_; clear hb)))
  go_meet
  case rel => exact ⟨_, (true), sr, H', ⟨by first | omega | exact Nat.le_refl _⟩, xb BK375, ⟨lb⟩⟩
 case rest =>
  clear HC7; obtain ⟨kq, x29_6, rfl, HA, HJ6, BK375, HB⟩ := hcut
  cases kq with
  | zero => exact absurd HA.out (by simp [compassref11_Cheapest.j0])
  | succ kj6 =>
   have H := HA.out; clear HA
   simp only [compassref11_Cheapest.j0] at H
   by_cases c20 : x29_6 = true
   ·
    subst c20
    replace H := ip H
    simp only [Option.some.injEq, Prod.mk.injEq] at H
    obtain ⟨rfl, rfl⟩ := H
    go_wp2
    repeat (go_quiet (fail); try go_wp2)
    go_ret2
    exact ⟨er, lb⟩
   replace c20 := Bool.eq_false_iff.mpr c20; subst c20
   have H1 : (compassref11_Cheapest.l0 kj6 l2 l3 0 a0_0 l0_1) = some (r1, r2) := by rw [if_neg (show ¬ (false = true) by decide)] at H; exact H
   clear H; have H := H1; clear H1; have H' := ak H; clear H
   go_wp2
   repeat (go_quiet (fail); try go_wp2)
   go_loopg [11] kj6 (fun kq v11 w' => ∃ (x11_2 : Int), v11 = .int .i64 x11_2 ∧ Aside0 (compassref11_Cheapest.l0 kq l2 l3 x11_2 a0_0 l0_1 = some (r1, r2)) ∧ Aside0 (kq ≤ kj6) ∧ Aside0 (w'.heap[gb375]? = some (.cells #[.int .i64 a0_0, (.slice A0_1 l0_1.length c0_1)] 24 (0, 0))) ∧ Aside0 (Below w.heap.size w w'))
   case atStart => exact ⟨(0), sr, H', ⟨Nat.le_refl _⟩, xb BK375, ⟨lb⟩⟩
   clear H'; obtain ⟨x11_2, rfl, HA, HK2, BK375, HB⟩ := hrel
   cases gk with
   | zero => exact absurd HA.out (by simp [compassref11_Cheapest.l0])
   | succ k2 => ?_
   have H := HA.out; clear HA
   simp only [compassref11_Cheapest.l0] at H
   by_cases c21 : x11_2 < (l2.length : Int)
   rotate_left
   ·
    rw [if_neg c21] at H; have c21b0 := decide_eq_false c21; clear c21; replace H := Option.bind_eq_some_iff.mp H; obtain ⟨t386, A490, H⟩ := H; have A49 := ak A490; clear A490
    simp only [Option.some.injEq, Prod.mk.injEq] at H
    obtain ⟨rfl, rfl⟩ := H; have ⟨_, _, _, _⟩ := cf2 BK375
    go_wp2_with (first | (go_at_call 31; (with_reducible refine (compassref11_Total.calls k2 a0_0 _ _ l0_1 _ _ l2 t386 _ (Kd.C_below HR0_1.out lb) HC0_1.out (Kd.C_below HR2.out lb) HC2.out A49.out).mono ?_); rintro e w51 ⟨rfl, hb⟩; have n_ := a2 (bo BK375 hb) (bl hb); clear BK375 HB; obtain ⟨BK375, HB⟩ := n_; clear hb))
    repeat (go_quiet (first | (go_at_call 31; (with_reducible refine (compassref11_Total.calls k2 a0_0 _ _ l0_1 _ _ l2 t386 _ (Kd.C_below HR0_1.out lb) HC0_1.out (Kd.C_below HR2.out lb) HC2.out A49.out).mono ?_); rintro e w51 ⟨rfl, hb⟩; have n_ := a2 (bo BK375 hb) (bl hb); clear BK375 HB; obtain ⟨BK375, HB⟩ := n_; clear hb)); try go_wp2_with (first | (go_at_call 31; (with_reducible refine (compassref11_Total.calls k2 a0_0 _ _ l0_1 _ _ l2 t386 _ (Kd.C_below HR0_1.out lb) HC0_1.out (Kd.C_below HR2.out lb) HC2.out A49.out).mono ?_); rintro e w51 ⟨rfl, hb⟩; have n_ := a2 (bo BK375 hb) (bl hb); clear BK375 HB; obtain ⟨BK375, HB⟩ := n_; clear hb)))
    go_ret2
    exact ⟨er, lb⟩
   rw [if_pos c21] at H; have c21b0 := decide_eq_true c21; clear c21; replace H := if2 H; obtain ⟨c22b0, c23b0, H⟩ := H; replace H := Option.bind_eq_some_iff.mp H; obtain ⟨t380, A240, H⟩ := H; have A24 := ak A240; clear A240
   by_cases c25 : t380 > 0
   rotate_left
   ·
    rw [if_neg c25] at H; have c25b0 := decide_eq_false c25; clear c25
    by_cases c39 : t380 < 0
    rotate_left
    ·
     rw [if_neg c39] at H; have c39b0 := decide_eq_false c39; clear c39; have H' := ak H; clear H; have ⟨_, _, _, _⟩ := cf2 BK375; obtain ⟨p379, q379, ad379, e379, hx379_0, hx379_1, hx379_2, hx379_3⟩ := wq (at_T98 HR0_1.out x11_2); cases e379
     (try replace hx379_0 := hbc HB hx379_0)
     (try replace hx379_1 := hbc HB hx379_1)
     (try replace hx379_2 := hbc HB hx379_2)
     (try replace hx379_3 := hbc HB hx379_3)
     go_wp2_with (first | (go_at_call 64; (with_reducible refine (compassref11_Reduced.calls ((rd_T98 l0_1 x11_2).f0) ((rd_T98 l0_1 x11_2).f1) ((rd_T98 l0_1 x11_2).f2) ((rd_T98 l0_1 x11_2).f3) _ _ l3 t380 _ (Kd.C_below HR3.out lb) HC3.out A24.out).mono ?_); rintro e w48 ⟨rfl, hb⟩; have n_ := a2 (bo BK375 hb) (bl hb); clear BK375 HB; obtain ⟨BK375, HB⟩ := n_; clear hb))
     repeat (go_quiet (first | (go_at_call 64; (with_reducible refine (compassref11_Reduced.calls ((rd_T98 l0_1 x11_2).f0) ((rd_T98 l0_1 x11_2).f1) ((rd_T98 l0_1 x11_2).f2) ((rd_T98 l0_1 x11_2).f3) _ _ l3 t380 _ (Kd.C_below HR3.out lb) HC3.out A24.out).mono ?_); rintro e w48 ⟨rfl, hb⟩; have n_ := a2 (bo BK375 hb) (bl hb); clear BK375 HB; obtain ⟨BK375, HB⟩ := n_; clear hb)); try go_wp2_with (first | (go_at_call 64; (with_reducible refine (compassref11_Reduced.calls ((rd_T98 l0_1 x11_2).f0) ((rd_T98 l0_1 x11_2).f1) ((rd_T98 l0_1 x11_2).f2) ((rd_T98 l0_1 x11_2).f3) _ _ l3 t380 _ (Kd.C_below HR3.out lb) HC3.out A24.out).mono ?_); rintro e w48 ⟨rfl, hb⟩; have n_ := a2 (bo BK375 hb) (bl hb); clear BK375 HB; obtain ⟨BK375, HB⟩ := n_; clear hb)))
     go_roundg k2
     case measure => have := HJ6.out; have := HK2.out; omega
     case rel => exact ⟨(wrap64 (x11_2 + 1)), sr, H', ⟨by have := HJ6.out; have := HK2.out; omega⟩, xb BK375, ⟨lb⟩⟩
    rw [if_pos c39] at H; have c39b0 := decide_eq_true c39; clear c39
    by_cases c40 : (rd l2 x11_2) < ((rd_T98 l0_1 x11_2).f2)
    rotate_left
    ·
     rw [if_neg c40] at H; have c40b0 := decide_eq_false c40; clear c40; have H' := ak H; clear H; have ⟨_, _, _, _⟩ := cf2 BK375; obtain ⟨p379, q379, ad379, e379, hx379_0, hx379_1, hx379_2, hx379_3⟩ := wq (at_T98 HR0_1.out x11_2); cases e379
     (try replace hx379_0 := hbc HB hx379_0)
     (try replace hx379_1 := hbc HB hx379_1)
     (try replace hx379_2 := hbc HB hx379_2)
     (try replace hx379_3 := hbc HB hx379_3)
     go_wp2_with (first | (go_at_call 64; (with_reducible refine (compassref11_Reduced.calls ((rd_T98 l0_1 x11_2).f0) ((rd_T98 l0_1 x11_2).f1) ((rd_T98 l0_1 x11_2).f2) ((rd_T98 l0_1 x11_2).f3) _ _ l3 t380 _ (Kd.C_below HR3.out lb) HC3.out A24.out).mono ?_); rintro e w45 ⟨rfl, hb⟩; have n_ := a2 (bo BK375 hb) (bl hb); clear BK375 HB; obtain ⟨BK375, HB⟩ := n_; clear hb; obtain ⟨p384, q384, ad384, e384, hx384_0⟩ := wq (Kd.at_int HR2.out x11_2); cases e384; replace hx384_0 := hbc HB hx384_0; have ⟨_, _, _, _⟩ := cf2 BK375; obtain ⟨p385, q385, ad385, e385, hx385_0, hx385_1, hx385_2, hx385_3⟩ := wq (at_T98 HR0_1.out x11_2); obtain rfl : ad379 = ad385 := (by injection e385); replace hx385_0 := hbc HB hx385_0; replace hx385_1 := hbc HB hx385_1; replace hx385_2 := hbc HB hx385_2; replace hx385_3 := hbc HB hx385_3))
     repeat (go_quiet (first | (go_at_call 64; (with_reducible refine (compassref11_Reduced.calls ((rd_T98 l0_1 x11_2).f0) ((rd_T98 l0_1 x11_2).f1) ((rd_T98 l0_1 x11_2).f2) ((rd_T98 l0_1 x11_2).f3) _ _ l3 t380 _ (Kd.C_below HR3.out lb) HC3.out A24.out).mono ?_); rintro e w45 ⟨rfl, hb⟩; have n_ := a2 (bo BK375 hb) (bl hb); clear BK375 HB; obtain ⟨BK375, HB⟩ := n_; clear hb; obtain ⟨p384, q384, ad384, e384, hx384_0⟩ := wq (Kd.at_int HR2.out x11_2); cases e384; replace hx384_0 := hbc HB hx384_0; have ⟨_, _, _, _⟩ := cf2 BK375; obtain ⟨p385, q385, ad385, e385, hx385_0, hx385_1, hx385_2, hx385_3⟩ := wq (at_T98 HR0_1.out x11_2); obtain rfl : ad379 = ad385 := (by injection e385); replace hx385_0 := hbc HB hx385_0; replace hx385_1 := hbc HB hx385_1; replace hx385_2 := hbc HB hx385_2; replace hx385_3 := hbc HB hx385_3)); try go_wp2_with (first | (go_at_call 64; (with_reducible refine (compassref11_Reduced.calls ((rd_T98 l0_1 x11_2).f0) ((rd_T98 l0_1 x11_2).f1) ((rd_T98 l0_1 x11_2).f2) ((rd_T98 l0_1 x11_2).f3) _ _ l3 t380 _ (Kd.C_below HR3.out lb) HC3.out A24.out).mono ?_); rintro e w45 ⟨rfl, hb⟩; have n_ := a2 (bo BK375 hb) (bl hb); clear BK375 HB; obtain ⟨BK375, HB⟩ := n_; clear hb; obtain ⟨p384, q384, ad384, e384, hx384_0⟩ := wq (Kd.at_int HR2.out x11_2); cases e384; replace hx384_0 := hbc HB hx384_0; have ⟨_, _, _, _⟩ := cf2 BK375; obtain ⟨p385, q385, ad385, e385, hx385_0, hx385_1, hx385_2, hx385_3⟩ := wq (at_T98 HR0_1.out x11_2); obtain rfl : ad379 = ad385 := (by injection e385); replace hx385_0 := hbc HB hx385_0; replace hx385_1 := hbc HB hx385_1; replace hx385_2 := hbc HB hx385_2; replace hx385_3 := hbc HB hx385_3)))
     go_roundg k2
     case measure => have := HJ6.out; have := HK2.out; omega
     case rel => exact ⟨(wrap64 (x11_2 + 1)), sr, H', ⟨by have := HJ6.out; have := HK2.out; omega⟩, xb BK375, ⟨lb⟩⟩
    rw [if_pos c40] at H; have c40b0 := decide_eq_true c40; clear c40
    simp only [Option.some.injEq, Prod.mk.injEq] at H
    obtain ⟨rfl, rfl⟩ := H; have ⟨_, _, _, _⟩ := cf2 BK375; obtain ⟨p379, q379, ad379, e379, hx379_0, hx379_1, hx379_2, hx379_3⟩ := wq (at_T98 HR0_1.out x11_2); cases e379
    (try replace hx379_0 := hbc HB hx379_0)
    (try replace hx379_1 := hbc HB hx379_1)
    (try replace hx379_2 := hbc HB hx379_2)
    (try replace hx379_3 := hbc HB hx379_3)
    go_wp2_with (first | (go_at_call 64; (with_reducible refine (compassref11_Reduced.calls ((rd_T98 l0_1 x11_2).f0) ((rd_T98 l0_1 x11_2).f1) ((rd_T98 l0_1 x11_2).f2) ((rd_T98 l0_1 x11_2).f3) _ _ l3 t380 _ (Kd.C_below HR3.out lb) HC3.out A24.out).mono ?_); rintro e w42 ⟨rfl, hb⟩; have n_ := a2 (bo BK375 hb) (bl hb); clear BK375 HB; obtain ⟨BK375, HB⟩ := n_; clear hb; obtain ⟨p384, q384, ad384, e384, hx384_0⟩ := wq (Kd.at_int HR2.out x11_2); cases e384; replace hx384_0 := hbc HB hx384_0; have ⟨_, _, _, _⟩ := cf2 BK375; obtain ⟨p385, q385, ad385, e385, hx385_0, hx385_1, hx385_2, hx385_3⟩ := wq (at_T98 HR0_1.out x11_2); obtain rfl : ad379 = ad385 := (by injection e385); replace hx385_0 := hbc HB hx385_0; replace hx385_1 := hbc HB hx385_1; replace hx385_2 := hbc HB hx385_2; replace hx385_3 := hbc HB hx385_3))
    repeat (go_quiet (first | (go_at_call 64; (with_reducible refine (compassref11_Reduced.calls ((rd_T98 l0_1 x11_2).f0) ((rd_T98 l0_1 x11_2).f1) ((rd_T98 l0_1 x11_2).f2) ((rd_T98 l0_1 x11_2).f3) _ _ l3 t380 _ (Kd.C_below HR3.out lb) HC3.out A24.out).mono ?_); rintro e w42 ⟨rfl, hb⟩; have n_ := a2 (bo BK375 hb) (bl hb); clear BK375 HB; obtain ⟨BK375, HB⟩ := n_; clear hb; obtain ⟨p384, q384, ad384, e384, hx384_0⟩ := wq (Kd.at_int HR2.out x11_2); cases e384; replace hx384_0 := hbc HB hx384_0; have ⟨_, _, _, _⟩ := cf2 BK375; obtain ⟨p385, q385, ad385, e385, hx385_0, hx385_1, hx385_2, hx385_3⟩ := wq (at_T98 HR0_1.out x11_2); obtain rfl : ad379 = ad385 := (by injection e385); replace hx385_0 := hbc HB hx385_0; replace hx385_1 := hbc HB hx385_1; replace hx385_2 := hbc HB hx385_2; replace hx385_3 := hbc HB hx385_3)); try go_wp2_with (first | (go_at_call 64; (with_reducible refine (compassref11_Reduced.calls ((rd_T98 l0_1 x11_2).f0) ((rd_T98 l0_1 x11_2).f1) ((rd_T98 l0_1 x11_2).f2) ((rd_T98 l0_1 x11_2).f3) _ _ l3 t380 _ (Kd.C_below HR3.out lb) HC3.out A24.out).mono ?_); rintro e w42 ⟨rfl, hb⟩; have n_ := a2 (bo BK375 hb) (bl hb); clear BK375 HB; obtain ⟨BK375, HB⟩ := n_; clear hb; obtain ⟨p384, q384, ad384, e384, hx384_0⟩ := wq (Kd.at_int HR2.out x11_2); cases e384; replace hx384_0 := hbc HB hx384_0; have ⟨_, _, _, _⟩ := cf2 BK375; obtain ⟨p385, q385, ad385, e385, hx385_0, hx385_1, hx385_2, hx385_3⟩ := wq (at_T98 HR0_1.out x11_2); obtain rfl : ad379 = ad385 := (by injection e385); replace hx385_0 := hbc HB hx385_0; replace hx385_1 := hbc HB hx385_1; replace hx385_2 := hbc HB hx385_2; replace hx385_3 := hbc HB hx385_3)))
    go_ret2
    exact ⟨er, lb⟩
   rw [if_pos c25] at H; have c25b0 := decide_eq_true c25; clear c25
   by_cases c26 : (rd l2 x11_2) > 0
   ·
    rw [if_pos c26] at H; have c26b0 := decide_eq_true c26; clear c26
    simp only [Option.some.injEq, Prod.mk.injEq] at H
    obtain ⟨rfl, rfl⟩ := H; have ⟨_, _, _, _⟩ := cf2 BK375; obtain ⟨p379, q379, ad379, e379, hx379_0, hx379_1, hx379_2, hx379_3⟩ := wq (at_T98 HR0_1.out x11_2); cases e379
    (try replace hx379_0 := hbc HB hx379_0)
    (try replace hx379_1 := hbc HB hx379_1)
    (try replace hx379_2 := hbc HB hx379_2)
    (try replace hx379_3 := hbc HB hx379_3)
    go_wp2_with (first | (go_at_call 64; (with_reducible refine (compassref11_Reduced.calls ((rd_T98 l0_1 x11_2).f0) ((rd_T98 l0_1 x11_2).f1) ((rd_T98 l0_1 x11_2).f2) ((rd_T98 l0_1 x11_2).f3) _ _ l3 t380 _ (Kd.C_below HR3.out lb) HC3.out A24.out).mono ?_); rintro e w28 ⟨rfl, hb⟩; have n_ := a2 (bo BK375 hb) (bl hb); clear BK375 HB; obtain ⟨BK375, HB⟩ := n_; clear hb; obtain ⟨p381, q381, ad381, e381, hx381_0⟩ := wq (Kd.at_int HR2.out x11_2); cases e381; replace hx381_0 := hbc HB hx381_0))
    repeat (go_quiet (first | (go_at_call 64; (with_reducible refine (compassref11_Reduced.calls ((rd_T98 l0_1 x11_2).f0) ((rd_T98 l0_1 x11_2).f1) ((rd_T98 l0_1 x11_2).f2) ((rd_T98 l0_1 x11_2).f3) _ _ l3 t380 _ (Kd.C_below HR3.out lb) HC3.out A24.out).mono ?_); rintro e w28 ⟨rfl, hb⟩; have n_ := a2 (bo BK375 hb) (bl hb); clear BK375 HB; obtain ⟨BK375, HB⟩ := n_; clear hb; obtain ⟨p381, q381, ad381, e381, hx381_0⟩ := wq (Kd.at_int HR2.out x11_2); cases e381; replace hx381_0 := hbc HB hx381_0)); try go_wp2_with (first | (go_at_call 64; (with_reducible refine (compassref11_Reduced.calls ((rd_T98 l0_1 x11_2).f0) ((rd_T98 l0_1 x11_2).f1) ((rd_T98 l0_1 x11_2).f2) ((rd_T98 l0_1 x11_2).f3) _ _ l3 t380 _ (Kd.C_below HR3.out lb) HC3.out A24.out).mono ?_); rintro e w28 ⟨rfl, hb⟩; have n_ := a2 (bo BK375 hb) (bl hb); clear BK375 HB; obtain ⟨BK375, HB⟩ := n_; clear hb; obtain ⟨p381, q381, ad381, e381, hx381_0⟩ := wq (Kd.at_int HR2.out x11_2); cases e381; replace hx381_0 := hbc HB hx381_0)))
    go_ret2
    exact ⟨er, lb⟩
   rw [if_neg c26] at H; have c26b0 := decide_eq_false c26; clear c26
   by_cases c29 : t380 < 0
   rotate_left
   ·
    rw [if_neg c29] at H; have c29b0 := decide_eq_false c29; clear c29; have H' := ak H; clear H; have ⟨_, _, _, _⟩ := cf2 BK375; obtain ⟨p379, q379, ad379, e379, hx379_0, hx379_1, hx379_2, hx379_3⟩ := wq (at_T98 HR0_1.out x11_2); cases e379
    (try replace hx379_0 := hbc HB hx379_0)
    (try replace hx379_1 := hbc HB hx379_1)
    (try replace hx379_2 := hbc HB hx379_2)
    (try replace hx379_3 := hbc HB hx379_3)
    go_wp2_with (first | (go_at_call 64; (with_reducible refine (compassref11_Reduced.calls ((rd_T98 l0_1 x11_2).f0) ((rd_T98 l0_1 x11_2).f1) ((rd_T98 l0_1 x11_2).f2) ((rd_T98 l0_1 x11_2).f3) _ _ l3 t380 _ (Kd.C_below HR3.out lb) HC3.out A24.out).mono ?_); rintro e w38 ⟨rfl, hb⟩; have n_ := a2 (bo BK375 hb) (bl hb); clear BK375 HB; obtain ⟨BK375, HB⟩ := n_; clear hb; obtain ⟨p381, q381, ad381, e381, hx381_0⟩ := wq (Kd.at_int HR2.out x11_2); cases e381; replace hx381_0 := hbc HB hx381_0))
    repeat (go_quiet (first | (go_at_call 64; (with_reducible refine (compassref11_Reduced.calls ((rd_T98 l0_1 x11_2).f0) ((rd_T98 l0_1 x11_2).f1) ((rd_T98 l0_1 x11_2).f2) ((rd_T98 l0_1 x11_2).f3) _ _ l3 t380 _ (Kd.C_below HR3.out lb) HC3.out A24.out).mono ?_); rintro e w38 ⟨rfl, hb⟩; have n_ := a2 (bo BK375 hb) (bl hb); clear BK375 HB; obtain ⟨BK375, HB⟩ := n_; clear hb; obtain ⟨p381, q381, ad381, e381, hx381_0⟩ := wq (Kd.at_int HR2.out x11_2); cases e381; replace hx381_0 := hbc HB hx381_0)); try go_wp2_with (first | (go_at_call 64; (with_reducible refine (compassref11_Reduced.calls ((rd_T98 l0_1 x11_2).f0) ((rd_T98 l0_1 x11_2).f1) ((rd_T98 l0_1 x11_2).f2) ((rd_T98 l0_1 x11_2).f3) _ _ l3 t380 _ (Kd.C_below HR3.out lb) HC3.out A24.out).mono ?_); rintro e w38 ⟨rfl, hb⟩; have n_ := a2 (bo BK375 hb) (bl hb); clear BK375 HB; obtain ⟨BK375, HB⟩ := n_; clear hb; obtain ⟨p381, q381, ad381, e381, hx381_0⟩ := wq (Kd.at_int HR2.out x11_2); cases e381; replace hx381_0 := hbc HB hx381_0)))
    go_roundg k2
    case measure => have := HJ6.out; have := HK2.out; omega
    case rel => exact ⟨(wrap64 (x11_2 + 1)), sr, H', ⟨by have := HJ6.out; have := HK2.out; omega⟩, xb BK375, ⟨lb⟩⟩
   rw [if_pos c29] at H; have c29b0 := decide_eq_true c29; clear c29
   by_cases c30 : (rd l2 x11_2) < ((rd_T98 l0_1 x11_2).f2)
   rotate_left
   ·
    rw [if_neg c30] at H; have c30b0 := decide_eq_false c30; clear c30; have H' := ak H; clear H; have ⟨_, _, _, _⟩ := cf2 BK375; obtain ⟨p379, q379, ad379, e379, hx379_0, hx379_1, hx379_2, hx379_3⟩ := wq (at_T98 HR0_1.out x11_2); cases e379
    (try replace hx379_0 := hbc HB hx379_0)
    (try replace hx379_1 := hbc HB hx379_1)
    (try replace hx379_2 := hbc HB hx379_2)
    (try replace hx379_3 := hbc HB hx379_3)
    go_wp2_with (first | (go_at_call 64; (with_reducible refine (compassref11_Reduced.calls ((rd_T98 l0_1 x11_2).f0) ((rd_T98 l0_1 x11_2).f1) ((rd_T98 l0_1 x11_2).f2) ((rd_T98 l0_1 x11_2).f3) _ _ l3 t380 _ (Kd.C_below HR3.out lb) HC3.out A24.out).mono ?_); rintro e w35 ⟨rfl, hb⟩; have n_ := a2 (bo BK375 hb) (bl hb); clear BK375 HB; obtain ⟨BK375, HB⟩ := n_; clear hb; obtain ⟨p381, q381, ad381, e381, hx381_0⟩ := wq (Kd.at_int HR2.out x11_2); cases e381; replace hx381_0 := hbc HB hx381_0; obtain ⟨p382, q382, ad382, e382, hx382_0⟩ := wq (Kd.at_int HR2.out x11_2); obtain rfl : ad381 = ad382 := (by injection e382); replace hx382_0 := hbc HB hx382_0; have ⟨_, _, _, _⟩ := cf2 BK375; obtain ⟨p383, q383, ad383, e383, hx383_0, hx383_1, hx383_2, hx383_3⟩ := wq (at_T98 HR0_1.out x11_2); obtain rfl : ad379 = ad383 := (by injection e383); replace hx383_0 := hbc HB hx383_0; replace hx383_1 := hbc HB hx383_1; replace hx383_2 := hbc HB hx383_2; replace hx383_3 := hbc HB hx383_3))
    repeat (go_quiet (first | (go_at_call 64; (with_reducible refine (compassref11_Reduced.calls ((rd_T98 l0_1 x11_2).f0) ((rd_T98 l0_1 x11_2).f1) ((rd_T98 l0_1 x11_2).f2) ((rd_T98 l0_1 x11_2).f3) _ _ l3 t380 _ (Kd.C_below HR3.out lb) HC3.out A24.out).mono ?_); rintro e w35 ⟨rfl, hb⟩; have n_ := a2 (bo BK375 hb) (bl hb); clear BK375 HB; obtain ⟨BK375, HB⟩ := n_; clear hb; obtain ⟨p381, q381, ad381, e381, hx381_0⟩ := wq (Kd.at_int HR2.out x11_2); cases e381; replace hx381_0 := hbc HB hx381_0; obtain ⟨p382, q382, ad382, e382, hx382_0⟩ := wq (Kd.at_int HR2.out x11_2); obtain rfl : ad381 = ad382 := (by injection e382); replace hx382_0 := hbc HB hx382_0; have ⟨_, _, _, _⟩ := cf2 BK375; obtain ⟨p383, q383, ad383, e383, hx383_0, hx383_1, hx383_2, hx383_3⟩ := wq (at_T98 HR0_1.out x11_2); obtain rfl : ad379 = ad383 := (by injection e383); replace hx383_0 := hbc HB hx383_0; replace hx383_1 := hbc HB hx383_1; replace hx383_2 := hbc HB hx383_2; replace hx383_3 := hbc HB hx383_3)); try go_wp2_with (first | (go_at_call 64; (with_reducible refine (compassref11_Reduced.calls ((rd_T98 l0_1 x11_2).f0) ((rd_T98 l0_1 x11_2).f1) ((rd_T98 l0_1 x11_2).f2) ((rd_T98 l0_1 x11_2).f3) _ _ l3 t380 _ (Kd.C_below HR3.out lb) HC3.out A24.out).mono ?_); rintro e w35 ⟨rfl, hb⟩; have n_ := a2 (bo BK375 hb) (bl hb); clear BK375 HB; obtain ⟨BK375, HB⟩ := n_; clear hb; obtain ⟨p381, q381, ad381, e381, hx381_0⟩ := wq (Kd.at_int HR2.out x11_2); cases e381; replace hx381_0 := hbc HB hx381_0; obtain ⟨p382, q382, ad382, e382, hx382_0⟩ := wq (Kd.at_int HR2.out x11_2); obtain rfl : ad381 = ad382 := (by injection e382); replace hx382_0 := hbc HB hx382_0; have ⟨_, _, _, _⟩ := cf2 BK375; obtain ⟨p383, q383, ad383, e383, hx383_0, hx383_1, hx383_2, hx383_3⟩ := wq (at_T98 HR0_1.out x11_2); obtain rfl : ad379 = ad383 := (by injection e383); replace hx383_0 := hbc HB hx383_0; replace hx383_1 := hbc HB hx383_1; replace hx383_2 := hbc HB hx383_2; replace hx383_3 := hbc HB hx383_3)))
    go_roundg k2
    case measure => have := HJ6.out; have := HK2.out; omega
    case rel => exact ⟨(wrap64 (x11_2 + 1)), sr, H', ⟨by have := HJ6.out; have := HK2.out; omega⟩, xb BK375, ⟨lb⟩⟩
   rw [if_pos c30] at H; have c30b0 := decide_eq_true c30; clear c30
   simp only [Option.some.injEq, Prod.mk.injEq] at H
   obtain ⟨rfl, rfl⟩ := H; have ⟨_, _, _, _⟩ := cf2 BK375; obtain ⟨p379, q379, ad379, e379, hx379_0, hx379_1, hx379_2, hx379_3⟩ := wq (at_T98 HR0_1.out x11_2); cases e379
   (try replace hx379_0 := hbc HB hx379_0)
   (try replace hx379_1 := hbc HB hx379_1)
   (try replace hx379_2 := hbc HB hx379_2)
   (try replace hx379_3 := hbc HB hx379_3)
   go_wp2_with (first | (go_at_call 64; (with_reducible refine (compassref11_Reduced.calls ((rd_T98 l0_1 x11_2).f0) ((rd_T98 l0_1 x11_2).f1) ((rd_T98 l0_1 x11_2).f2) ((rd_T98 l0_1 x11_2).f3) _ _ l3 t380 _ (Kd.C_below HR3.out lb) HC3.out A24.out).mono ?_); rintro e w32 ⟨rfl, hb⟩; have n_ := a2 (bo BK375 hb) (bl hb); clear BK375 HB; obtain ⟨BK375, HB⟩ := n_; clear hb; obtain ⟨p381, q381, ad381, e381, hx381_0⟩ := wq (Kd.at_int HR2.out x11_2); cases e381; replace hx381_0 := hbc HB hx381_0; obtain ⟨p382, q382, ad382, e382, hx382_0⟩ := wq (Kd.at_int HR2.out x11_2); obtain rfl : ad381 = ad382 := (by injection e382); replace hx382_0 := hbc HB hx382_0; have ⟨_, _, _, _⟩ := cf2 BK375; obtain ⟨p383, q383, ad383, e383, hx383_0, hx383_1, hx383_2, hx383_3⟩ := wq (at_T98 HR0_1.out x11_2); obtain rfl : ad379 = ad383 := (by injection e383); replace hx383_0 := hbc HB hx383_0; replace hx383_1 := hbc HB hx383_1; replace hx383_2 := hbc HB hx383_2; replace hx383_3 := hbc HB hx383_3))
   repeat (go_quiet (first | (go_at_call 64; (with_reducible refine (compassref11_Reduced.calls ((rd_T98 l0_1 x11_2).f0) ((rd_T98 l0_1 x11_2).f1) ((rd_T98 l0_1 x11_2).f2) ((rd_T98 l0_1 x11_2).f3) _ _ l3 t380 _ (Kd.C_below HR3.out lb) HC3.out A24.out).mono ?_); rintro e w32 ⟨rfl, hb⟩; have n_ := a2 (bo BK375 hb) (bl hb); clear BK375 HB; obtain ⟨BK375, HB⟩ := n_; clear hb; obtain ⟨p381, q381, ad381, e381, hx381_0⟩ := wq (Kd.at_int HR2.out x11_2); cases e381; replace hx381_0 := hbc HB hx381_0; obtain ⟨p382, q382, ad382, e382, hx382_0⟩ := wq (Kd.at_int HR2.out x11_2); obtain rfl : ad381 = ad382 := (by injection e382); replace hx382_0 := hbc HB hx382_0; have ⟨_, _, _, _⟩ := cf2 BK375; obtain ⟨p383, q383, ad383, e383, hx383_0, hx383_1, hx383_2, hx383_3⟩ := wq (at_T98 HR0_1.out x11_2); obtain rfl : ad379 = ad383 := (by injection e383); replace hx383_0 := hbc HB hx383_0; replace hx383_1 := hbc HB hx383_1; replace hx383_2 := hbc HB hx383_2; replace hx383_3 := hbc HB hx383_3)); try go_wp2_with (first | (go_at_call 64; (with_reducible refine (compassref11_Reduced.calls ((rd_T98 l0_1 x11_2).f0) ((rd_T98 l0_1 x11_2).f1) ((rd_T98 l0_1 x11_2).f2) ((rd_T98 l0_1 x11_2).f3) _ _ l3 t380 _ (Kd.C_below HR3.out lb) HC3.out A24.out).mono ?_); rintro e w32 ⟨rfl, hb⟩; have n_ := a2 (bo BK375 hb) (bl hb); clear BK375 HB; obtain ⟨BK375, HB⟩ := n_; clear hb; obtain ⟨p381, q381, ad381, e381, hx381_0⟩ := wq (Kd.at_int HR2.out x11_2); cases e381; replace hx381_0 := hbc HB hx381_0; obtain ⟨p382, q382, ad382, e382, hx382_0⟩ := wq (Kd.at_int HR2.out x11_2); obtain rfl : ad381 = ad382 := (by injection e382); replace hx382_0 := hbc HB hx382_0; have ⟨_, _, _, _⟩ := cf2 BK375; obtain ⟨p383, q383, ad383, e383, hx383_0, hx383_1, hx383_2, hx383_3⟩ := wq (at_T98 HR0_1.out x11_2); obtain rfl : ad379 = ad383 := (by injection e383); replace hx383_0 := hbc HB hx383_0; replace hx383_1 := hbc HB hx383_1; replace hx383_2 := hbc HB hx383_2; replace hx383_3 := hbc HB hx383_3)))
   go_ret2
   exact ⟨er, lb⟩
end Go.Proofs.Ytkdoihcjhccliaa.Q
