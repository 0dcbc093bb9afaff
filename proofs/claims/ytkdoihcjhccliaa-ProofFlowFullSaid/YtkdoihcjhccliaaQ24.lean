import Derived.Test.YtkdoihcjhccliaaQ0
import Derived.Test.YtkdoihcjhccliaaQ23
namespace Go.Proofs.Ytkdoihcjhccliaa.Q
open Go.RowKit Go.Proofs.YtkdoihcjhccliaaW.PrintWords Go.Proofs.YtkdoihcjhccliaaW.PrintLast Go.Proofs.YtkdoihcjhccliaaW.PrintMore
attribute [local go_sem] max2_int min2_int max_two min_two max_three min_three max_four min_four   -- for this text's walks alone
set_option linter.unusedVariables false
set_option linter.unusedSimpArgs false

/-! ### compassref04_Wrong: function 55 -/
def compassref04_Wrong.f (k : Nat) (a0_0 : Int) (l0_1 : List (S98)) (a1 : Int) : Option (Int) := (compassref03_Check.f k a0_0 l0_1).bind fun bt336 => (if bt336.1 = 0 then (if a1 < 0 then (some 30) else (if a1 ≥ a0_0 then (some 30) else (some bt336.1))) else (some bt336.1))
set_option maxHeartbeats 8000000 in
set_option maxRecDepth 100000 in
theorem compassref04_Wrong.calls (k : Nat) (a0_0 : Int) (A0_1 : Option Addr) (c0_1 : Nat) (l0_1 : List (S98)) (a1 : Int) (r : Int) (w : World) (hr0_1 : Kd.C k98 w A0_1 l0_1.length l0_1) (hc0_1 : l0_1.length ≤ c0_1) (h : compassref04_Wrong.f k a0_0 l0_1 a1 = some r) :
    Calls Try.prog 55 #[.agg #[.int .i64 a0_0, .slice A0_1 l0_1.length c0_1], .int .i64 a1] w fun e w' => e = .returned (.int .i64 r) ∧ Below w.heap.size w w' := by
 have hu24 := Try.underlying24; have HR0_1 := ak hr0_1; have HC0_1 := ak hc0_1; clear hr0_1 hc0_1; have HB := ak (Below.refl w.heap.size w); have H : ((compassref03_Check.f k a0_0 l0_1).bind fun bt336 => (if bt336.1 = 0 then (if a1 < 0 then (some 30) else (if a1 ≥ a0_0 then (some 30) else (some bt336.1))) else (some bt336.1))) = some r := h; clear h; replace H := Option.bind_eq_some_iff.mp H; obtain ⟨⟨t336, t337⟩, A30, H⟩ := H; dsimp only at H; have A3 := ak A30; clear A30
 by_cases c4 : t336 = 0
 rotate_left
 ·
  rw [if_neg c4] at H; have c4b := bn2 c4; obtain rfl := Option.some.inj H
  go_enter Try.func55, Try.ntmps55
  go_wp2_with (first | ((with_reducible refine gate_dst (N := 2) rfl ?_); refine bxe 2 #[.int .i64 a0_0, .slice A0_1 l0_1.length c0_1] 24 ?_; intro gb335 hg w18 hbox hb; have n0_ := ak (bl hb); have n1_ := ak (hbox); have n2_ := ak (gw w hg); have n3_ := ak (gw w hg); clear HB; have HB := n0_; have BK335 := n1_; have GW335 := n2_; have GE335 := n3_; clear n0_ n1_ n2_ n3_; clear hb hbox hg; have ⟨_, _, _, _⟩ := cf2 BK335) | ((with_reducible refine gate_callee (f := 44) rfl ?_); refine gl 9 Try.func44 #[.agg #[.int .i64 a0_0, .slice A0_1 l0_1.length c0_1]] ?_; (with_reducible refine (compassref03_Check.calls k a0_0 _ _ l0_1 t336 t337 _ (Kd.C_below HR0_1.out lb) HC0_1.out A3.out).mono ?_); rintro e w20 ⟨rfl, hb⟩; refine ⟨_, rfl, ?_⟩; have n0_ := ak (bo BK335 hb); have n1_ := ak (bl hb); clear BK335; clear HB; have BK335 := n0_; have HB := n1_; clear n0_ n1_; clear hb))
  go_ret
  exact ⟨er, lb⟩

 rw [if_pos c4] at H; have c4b := be2 c4; clear c4
 by_cases c5 : a1 < 0
 ·
  rw [if_pos c5] at H; have c5b0 := decide_eq_true c5; clear c5; obtain rfl := Option.some.inj H
  go_enter Try.func55, Try.ntmps55
  go_wp2_with (first | ((with_reducible refine gate_dst (N := 2) rfl ?_); refine bxe 2 #[.int .i64 a0_0, .slice A0_1 l0_1.length c0_1] 24 ?_; intro gb335 hg w6 hbox hb; have n0_ := ak (bl hb); have n1_ := ak (hbox); have n2_ := ak (gw w hg); have n3_ := ak (gw w hg); clear HB; have HB := n0_; have BK335 := n1_; have GW335 := n2_; have GE335 := n3_; clear n0_ n1_ n2_ n3_; clear hb hbox hg; have ⟨_, _, _, _⟩ := cf2 BK335) | ((with_reducible refine gate_callee (f := 44) rfl ?_); refine gl 9 Try.func44 #[.agg #[.int .i64 a0_0, .slice A0_1 l0_1.length c0_1]] ?_; (with_reducible refine (compassref03_Check.calls k a0_0 _ _ l0_1 t336 t337 _ (Kd.C_below HR0_1.out lb) HC0_1.out A3.out).mono ?_); rintro e w8 ⟨rfl, hb⟩; refine ⟨_, rfl, ?_⟩; have n0_ := ak (bo BK335 hb); have n1_ := ak (bl hb); clear BK335; clear HB; have BK335 := n0_; have HB := n1_; clear n0_ n1_; clear hb))
  go_ret
  exact ⟨er, lb⟩
 rw [if_neg c5] at H; have c5b0 := decide_eq_false c5; clear c5
 by_cases c9 : a1 ≥ a0_0
 rotate_left
 ·
  rw [if_neg c9] at H; have c9b0 := decide_eq_false c9; clear c9; obtain rfl := Option.some.inj H
  go_enter Try.func55, Try.ntmps55
  go_wp2_with (first | ((with_reducible refine gate_dst (N := 2) rfl ?_); refine bxe 2 #[.int .i64 a0_0, .slice A0_1 l0_1.length c0_1] 24 ?_; intro gb335 hg w14 hbox hb; have n0_ := ak (bl hb); have n1_ := ak (hbox); have n2_ := ak (gw w hg); have n3_ := ak (gw w hg); clear HB; have HB := n0_; have BK335 := n1_; have GW335 := n2_; have GE335 := n3_; clear n0_ n1_ n2_ n3_; clear hb hbox hg; have ⟨_, _, _, _⟩ := cf2 BK335) | ((with_reducible refine gate_callee (f := 44) rfl ?_); refine gl 9 Try.func44 #[.agg #[.int .i64 a0_0, .slice A0_1 l0_1.length c0_1]] ?_; (with_reducible refine (compassref03_Check.calls k a0_0 _ _ l0_1 t336 t337 _ (Kd.C_below HR0_1.out lb) HC0_1.out A3.out).mono ?_); rintro e w16 ⟨rfl, hb⟩; refine ⟨_, rfl, ?_⟩; have n0_ := ak (bo BK335 hb); have n1_ := ak (bl hb); clear BK335; clear HB; have BK335 := n0_; have HB := n1_; clear n0_ n1_; clear hb; have ⟨_, _, _, _⟩ := cf2 BK335))
  go_ret
  exact ⟨er, lb⟩
 rw [if_pos c9] at H; have c9b0 := decide_eq_true c9; clear c9; obtain rfl := Option.some.inj H
 go_enter Try.func55, Try.ntmps55
 go_wp2_with (first | ((with_reducible refine gate_dst (N := 2) rfl ?_); refine bxe 2 #[.int .i64 a0_0, .slice A0_1 l0_1.length c0_1] 24 ?_; intro gb335 hg w10 hbox hb; have n0_ := ak (bl hb); have n1_ := ak (hbox); have n2_ := ak (gw w hg); have n3_ := ak (gw w hg); clear HB; have HB := n0_; have BK335 := n1_; have GW335 := n2_; have GE335 := n3_; clear n0_ n1_ n2_ n3_; clear hb hbox hg; have ⟨_, _, _, _⟩ := cf2 BK335) | ((with_reducible refine gate_callee (f := 44) rfl ?_); refine gl 9 Try.func44 #[.agg #[.int .i64 a0_0, .slice A0_1 l0_1.length c0_1]] ?_; (with_reducible refine (compassref03_Check.calls k a0_0 _ _ l0_1 t336 t337 _ (Kd.C_below HR0_1.out lb) HC0_1.out A3.out).mono ?_); rintro e w12 ⟨rfl, hb⟩; refine ⟨_, rfl, ?_⟩; have n0_ := ak (bo BK335 hb); have n1_ := ak (bl hb); clear BK335; clear HB; have BK335 := n0_; have HB := n1_; clear n0_ n1_; clear hb; have ⟨_, _, _, _⟩ := cf2 BK335))
 go_ret
 exact ⟨er, lb⟩
/-! ### compassref11_Ends: function 20 -/
def compassref11_Ends.f (k : Nat) (a0_0 : Int) (l0_1 : List (S98)) (a1 : Int) (a2 : Int) : Option (Int) := (compassref04_Wrong.f k a0_0 l0_1 a1).bind fun t339 => (if t339 = 0 then ((compassref04_Wrong.f k a0_0 l0_1 a2).bind fun t340 => (if t340 = 0 then (if a1 = a2 then (some 120) else (some t340)) else (some t340))) else (some t339))
set_option maxHeartbeats 8000000 in
set_option maxRecDepth 100000 in
theorem compassref11_Ends.calls (k : Nat) (a0_0 : Int) (A0_1 : Option Addr) (c0_1 : Nat) (l0_1 : List (S98)) (a1 : Int) (a2 : Int) (r : Int) (w : World) (hr0_1 : Kd.C k98 w A0_1 l0_1.length l0_1) (hc0_1 : l0_1.length ≤ c0_1) (h : compassref11_Ends.f k a0_0 l0_1 a1 a2 = some r) :
    Calls Try.prog 20 #[.agg #[.int .i64 a0_0, .slice A0_1 l0_1.length c0_1], .int .i64 a1, .int .i64 a2] w fun e w' => e = .returned (.int .i64 r) ∧ Below w.heap.size w w' := by
 have hu24 := Try.underlying24; have HR0_1 := ak hr0_1; have HC0_1 := ak hc0_1; clear hr0_1 hc0_1; have HB := ak (Below.refl w.heap.size w); have H : ((compassref04_Wrong.f k a0_0 l0_1 a1).bind fun t339 => (if t339 = 0 then ((compassref04_Wrong.f k a0_0 l0_1 a2).bind fun t340 => (if t340 = 0 then (if a1 = a2 then (some 120) else (some t340)) else (some t340))) else (some t339))) = some r := h; clear h; replace H := Option.bind_eq_some_iff.mp H; obtain ⟨t339, A40, H⟩ := H; have A4 := ak A40; clear A40
 by_cases c5 : t339 = 0
 rotate_left
 ·
  rw [if_neg c5] at H; have c5b := bn2 c5; obtain rfl := Option.some.inj H
  go_enter Try.func20, Try.ntmps20
  go_wp2_with (first | ((with_reducible refine gate_dst (N := 3) rfl ?_); refine bxe 3 #[.int .i64 a0_0, .slice A0_1 l0_1.length c0_1] 24 ?_; intro gb338 hg w24 hbox hb; have n0_ := ak (bl hb); have n1_ := ak (hbox); have n2_ := ak (gw w hg); have n3_ := ak (gw w hg); clear HB; have HB := n0_; have BK338 := n1_; have GW338 := n2_; have GE338 := n3_; clear n0_ n1_ n2_ n3_; clear hb hbox hg; have ⟨_, _, _, _⟩ := cf2 BK338) | ((with_reducible refine gate_callee (f := 55) rfl ?_); refine gl 10 Try.func55 #[.agg #[.int .i64 a0_0, .slice A0_1 l0_1.length c0_1], .int .i64 a1] ?_; (with_reducible refine (compassref04_Wrong.calls k a0_0 _ _ l0_1 a1 t339 _ (Kd.C_below HR0_1.out lb) HC0_1.out A4.out).mono ?_); rintro e w26 ⟨rfl, hb⟩; refine ⟨_, rfl, ?_⟩; have n0_ := ak (bo BK338 hb); have n1_ := ak (bl hb); clear BK338; clear HB; have BK338 := n0_; have HB := n1_; clear n0_ n1_; clear hb))
  go_ret
  exact ⟨er, lb⟩

 rw [if_pos c5] at H; have c5b := be2 c5; clear c5; replace H := Option.bind_eq_some_iff.mp H; obtain ⟨t340, A60, H⟩ := H; have A6 := ak A60; clear A60
 by_cases c7 : t340 = 0
 rotate_left
 ·
  rw [if_neg c7] at H; have c7b := bn2 c7; obtain rfl := Option.some.inj H
  go_enter Try.func20, Try.ntmps20
  go_wp2_with (first | ((with_reducible refine gate_dst (N := 3) rfl ?_); refine bxe 3 #[.int .i64 a0_0, .slice A0_1 l0_1.length c0_1] 24 ?_; intro gb338 hg w19 hbox hb; have n0_ := ak (bl hb); have n1_ := ak (hbox); have n2_ := ak (gw w hg); have n3_ := ak (gw w hg); clear HB; have HB := n0_; have BK338 := n1_; have GW338 := n2_; have GE338 := n3_; clear n0_ n1_ n2_ n3_; clear hb hbox hg; have ⟨_, _, _, _⟩ := cf2 BK338) | ((with_reducible refine gate_callee (f := 55) rfl ?_); refine gl 10 Try.func55 #[.agg #[.int .i64 a0_0, .slice A0_1 l0_1.length c0_1], .int .i64 a1] ?_; (with_reducible refine (compassref04_Wrong.calls k a0_0 _ _ l0_1 a1 t339 _ (Kd.C_below HR0_1.out lb) HC0_1.out A4.out).mono ?_); rintro e w21 ⟨rfl, hb⟩; refine ⟨_, rfl, ?_⟩; have n0_ := ak (bo BK338 hb); have n1_ := ak (bl hb); clear BK338; clear HB; have BK338 := n0_; have HB := n1_; clear n0_ n1_; clear hb; have ⟨_, _, _, _⟩ := cf2 BK338) | ((with_reducible refine gate_callee (f := 55) rfl ?_); refine gl 15 Try.func55 #[.agg #[.int .i64 a0_0, .slice A0_1 l0_1.length c0_1], .int .i64 a2] ?_; (with_reducible refine (compassref04_Wrong.calls k a0_0 _ _ l0_1 a2 t340 _ (Kd.C_below HR0_1.out lb) HC0_1.out A6.out).mono ?_); rintro e w23 ⟨rfl, hb⟩; refine ⟨_, rfl, ?_⟩; have n0_ := ak (bo BK338 hb); have n1_ := ak (bl hb); clear BK338; clear HB; have BK338 := n0_; have HB := n1_; clear n0_ n1_; clear hb))
  go_ret
  exact ⟨er, lb⟩
 rw [if_pos c7] at H; have c7b := be2 c7; clear c7
 by_cases c8 : a1 = a2
 rotate_left
 ·
  rw [if_neg c8] at H; have c8b := bn2 c8; obtain rfl := Option.some.inj H
  go_enter Try.func20, Try.ntmps20
  go_wp2_with (first | ((with_reducible refine gate_dst (N := 3) rfl ?_); refine bxe 3 #[.int .i64 a0_0, .slice A0_1 l0_1.length c0_1] 24 ?_; intro gb338 hg w14 hbox hb; have n0_ := ak (bl hb); have n1_ := ak (hbox); have n2_ := ak (gw w hg); have n3_ := ak (gw w hg); clear HB; have HB := n0_; have BK338 := n1_; have GW338 := n2_; have GE338 := n3_; clear n0_ n1_ n2_ n3_; clear hb hbox hg; have ⟨_, _, _, _⟩ := cf2 BK338) | ((with_reducible refine gate_callee (f := 55) rfl ?_); refine gl 10 Try.func55 #[.agg #[.int .i64 a0_0, .slice A0_1 l0_1.length c0_1], .int .i64 a1] ?_; (with_reducible refine (compassref04_Wrong.calls k a0_0 _ _ l0_1 a1 t339 _ (Kd.C_below HR0_1.out lb) HC0_1.out A4.out).mono ?_); rintro e w16 ⟨rfl, hb⟩; refine ⟨_, rfl, ?_⟩; have n0_ := ak (bo BK338 hb); have n1_ := ak (bl hb); clear BK338; clear HB; have BK338 := n0_; have HB := n1_; clear n0_ n1_; clear hb; have ⟨_, _, _, _⟩ := cf2 BK338) | ((with_reducible refine gate_callee (f := 55) rfl ?_); refine gl 15 Try.func55 #[.agg #[.int .i64 a0_0, .slice A0_1 l0_1.length c0_1], .int .i64 a2] ?_; (with_reducible refine (compassref04_Wrong.calls k a0_0 _ _ l0_1 a2 t340 _ (Kd.C_below HR0_1.out lb) HC0_1.out A6.out).mono ?_); rintro e w18 ⟨rfl, hb⟩; refine ⟨_, rfl, ?_⟩; have n0_ := ak (bo BK338 hb); have n1_ := ak (bl hb); clear BK338; clear HB; have BK338 := n0_; have HB := n1_; clear n0_ n1_; clear hb))
  go_ret
  exact ⟨er, lb⟩
 rw [if_pos c8] at H; have c8b := be2 c8; clear c8; obtain rfl := Option.some.inj H
 go_enter Try.func20, Try.ntmps20
 go_wp2_with (first | ((with_reducible refine gate_dst (N := 3) rfl ?_); refine bxe 3 #[.int .i64 a0_0, .slice A0_1 l0_1.length c0_1] 24 ?_; intro gb338 hg w9 hbox hb; have n0_ := ak (bl hb); have n1_ := ak (hbox); have n2_ := ak (gw w hg); have n3_ := ak (gw w hg); clear HB; have HB := n0_; have BK338 := n1_; have GW338 := n2_; have GE338 := n3_; clear n0_ n1_ n2_ n3_; clear hb hbox hg; have ⟨_, _, _, _⟩ := cf2 BK338) | ((with_reducible refine gate_callee (f := 55) rfl ?_); refine gl 10 Try.func55 #[.agg #[.int .i64 a0_0, .slice A0_1 l0_1.length c0_1], .int .i64 a1] ?_; (with_reducible refine (compassref04_Wrong.calls k a0_0 _ _ l0_1 a1 t339 _ (Kd.C_below HR0_1.out lb) HC0_1.out A4.out).mono ?_); rintro e w11 ⟨rfl, hb⟩; refine ⟨_, rfl, ?_⟩; have n0_ := ak (bo BK338 hb); have n1_ := ak (bl hb); clear BK338; clear HB; have BK338 := n0_; have HB := n1_; clear n0_ n1_; clear hb; have ⟨_, _, _, _⟩ := cf2 BK338) | ((with_reducible refine gate_callee (f := 55) rfl ?_); refine gl 15 Try.func55 #[.agg #[.int .i64 a0_0, .slice A0_1 l0_1.length c0_1], .int .i64 a2] ?_; (with_reducible refine (compassref04_Wrong.calls k a0_0 _ _ l0_1 a2 t340 _ (Kd.C_below HR0_1.out lb) HC0_1.out A6.out).mono ?_); rintro e w13 ⟨rfl, hb⟩; refine ⟨_, rfl, ?_⟩; have n0_ := ak (bo BK338 hb); have n1_ := ak (bl hb); clear BK338; clear HB; have BK338 := n0_; have HB := n1_; clear n0_ n1_; clear hb))
 go_ret
 exact ⟨er, lb⟩
end Go.Proofs.Ytkdoihcjhccliaa.Q
