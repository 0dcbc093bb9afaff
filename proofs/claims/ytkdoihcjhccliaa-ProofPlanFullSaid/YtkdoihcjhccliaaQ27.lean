import Derived.Test.YtkdoihcjhccliaaQ0
import Derived.Test.YtkdoihcjhccliaaQ23
namespace Go.Proofs.Ytkdoihcjhccliaa.Q
open Go.RowKit Go.Proofs.YtkdoihcjhccliaaW.PrintWords Go.Proofs.YtkdoihcjhccliaaW.PrintLast Go.Proofs.YtkdoihcjhccliaaW.PrintMore
attribute [local go_sem] max2_int min2_int max_two min_two max_three min_three max_four min_four   -- for this text's walks alone
set_option linter.unusedVariables false
set_option linter.unusedSimpArgs false

/-! ### compassref11_Total: function 31 -/
def compassref11_Total.l0 : Nat → List Int → Int → Int → Int → List (S98) → Option (Int)
  | 0, _, _, _, _, _ => none
  | k + 1, x1, x5, x6, x361000, x361001 => if x6 < (x1.length : Int) then (if 0 ≤ x6 then (if x6 < (x361001.length : Int) then (compassref11_Total.l0 k x1 (wrap64 (x5 + (wrap64 (((rd_T98 x361001 x6).f3) * (rd x1 x6))))) (wrap64 (x6 + 1)) x361000 x361001) else (none)) else (none)) else (some x5)
def compassref11_Total.f (k : Nat) (a0_0 : Int) (l0_1 : List (S98)) (l1 : List Int) : Option (Int) := compassref11_Total.l0 k l1 0 0 a0_0 l0_1
set_option maxHeartbeats 8000000 in
set_option maxRecDepth 100000 in
theorem compassref11_Total.calls (k : Nat) (a0_0 : Int) (A0_1 : Option Addr) (c0_1 : Nat) (l0_1 : List (S98)) (A1 : Option Addr) (c1 : Nat) (l1 : List Int) (r : Int) (w : World) (hr0_1 : Kd.C k98 w A0_1 l0_1.length l0_1) (hc0_1 : l0_1.length ≤ c0_1) (hr1 : Kd.C (Kd.int .i64) w A1 l1.length l1) (hc1 : l1.length ≤ c1) (h : compassref11_Total.f k a0_0 l0_1 l1 = some r) :
    Calls Try.prog 31 #[.agg #[.int .i64 a0_0, .slice A0_1 l0_1.length c0_1], .slice A1 l1.length c1] w fun e w' => e = .returned (.int .i64 r) ∧ Below w.heap.size w w' := by
 have hu24 := Try.underlying24; have HR0_1 := ak hr0_1; have HC0_1 := ak hc0_1; clear hr0_1 hc0_1; have HR1 := ak hr1; have HC1 := ak hc1; clear hr1 hc1; have HB := ak (Below.refl w.heap.size w); have H : (compassref11_Total.l0 k l1 0 0 a0_0 l0_1) = some r := h; clear h; have H' := ak H; clear H
 go_enter Try.func31, Try.ntmps31
 go_wp2_with (first | ((with_reducible refine gate_dst (N := 2) rfl ?_); refine bxe 2 #[.int .i64 a0_0, .slice A0_1 l0_1.length c0_1] 24 ?_; intro gb360 hg w3 hbox hb; have n_ := a4 (bl hb) hbox (gw w hg) (gw w hg); clear HB; obtain ⟨HB, BK360, GW360, GE360⟩ := n_; clear hb hbox hg))
 repeat (go_quiet (first | ((with_reducible refine gate_dst (N := 2) rfl ?_); refine bxe 2 #[.int .i64 a0_0, .slice A0_1 l0_1.length c0_1] 24 ?_; intro gb360 hg w3 hbox hb; have n_ := a4 (bl hb) hbox (gw w hg) (gw w hg); clear HB; obtain ⟨HB, BK360, GW360, GE360⟩ := n_; clear hb hbox hg)); try go_wp2_with (first | ((with_reducible refine gate_dst (N := 2) rfl ?_); refine bxe 2 #[.int .i64 a0_0, .slice A0_1 l0_1.length c0_1] 24 ?_; intro gb360 hg w3 hbox hb; have n_ := a4 (bl hb) hbox (gw w hg) (gw w hg); clear HB; obtain ⟨HB, BK360, GW360, GE360⟩ := n_; clear hb hbox hg)))
 go_loopg [5, 6] k (fun kq v5 v6 w' => ∃ (x5_1 : Int) (x6_1 : Int), v5 = .int .i64 x5_1 ∧ v6 = .int .i64 x6_1 ∧ Aside0 (compassref11_Total.l0 kq l1 x5_1 x6_1 a0_0 l0_1 = some r) ∧ Aside0 (kq ≤ k) ∧ Aside0 (w'.heap[gb360]? = some (.cells #[.int .i64 a0_0, (.slice A0_1 l0_1.length c0_1)] 24 (0, 0))) ∧ Aside0 (Below w.heap.size w w'))
 case atStart => exact ⟨(0), (0), sr, sr, H', ⟨Nat.le_refl _⟩, xb BK360, ⟨lb⟩⟩
 clear H'; obtain ⟨x5_1, x6_1, rfl, rfl, HA, HK1, BK360, HB⟩ := hrel
 cases gk with
 | zero => exact absurd HA.out (by simp [compassref11_Total.l0])
 | succ k1 => ?_
 have H := HA.out; clear HA
 simp only [compassref11_Total.l0] at H
 by_cases c4 : x6_1 < (l1.length : Int)
 rotate_left
 ·
  rw [if_neg c4] at H; have c4b0 := decide_eq_false c4; clear c4; obtain rfl := Option.some.inj H
  go_wp2
  repeat (go_quiet (fail); try go_wp2)
  go_ret
  exact ⟨er, lb⟩

 rw [if_pos c4] at H; have c4b0 := decide_eq_true c4; clear c4; replace H := if2 H; obtain ⟨c5b0, c6b0, H⟩ := H; have H' := ak H; clear H; have ⟨_, _, _, _⟩ := cf2 BK360; obtain ⟨p361, q361, ad361, e361, hx361_0, hx361_1, hx361_2, hx361_3⟩ := wq (at_T98 HR0_1.out x6_1); cases e361
 (try replace hx361_0 := hbc HB hx361_0)
 (try replace hx361_1 := hbc HB hx361_1)
 (try replace hx361_2 := hbc HB hx361_2)
 (try replace hx361_3 := hbc HB hx361_3); obtain ⟨p362, q362, ad362, e362, hx362_0⟩ := wq (Kd.at_int HR1.out x6_1); cases e362
 (try replace hx362_0 := hbc HB hx362_0)
 go_wp2
 repeat (go_quiet (fail); try go_wp2)
 go_roundg k1
 case measure => have := HK1.out; omega
 case rel => exact ⟨(wrap64 (x5_1 + (wrap64 (((rd_T98 l0_1 x6_1).f3) * (rd l1 x6_1))))), (wrap64 (x6_1 + 1)), sr, sr, H', ⟨by have := HK1.out; omega⟩, xb BK360, ⟨lb⟩⟩
/-! ### compassref11_Supplies: function 33 -/
def compassref11_Supplies.l0 : Nat → List Int → Int → Int → Int → List (S98) → Option (Int)
  | 0, _, _, _, _, _ => none
  | k + 1, x1, x7, x8, x364000, x364001 => if x8 < x364000 then (if 0 ≤ x8 then (if x8 < (x1.length : Int) then (if (rd x1 x8) < (-1048576) then (some 130) else (if (rd x1 x8) > 1048576 then (some 130) else (compassref11_Supplies.l0 k x1 (wrap64 (x7 + (rd x1 x8))) (wrap64 (x8 + 1)) x364000 x364001))) else (none)) else (none)) else (if x7 = 0 then (some 0) else (some 130))
def compassref11_Supplies.f (k : Nat) (a0_0 : Int) (l0_1 : List (S98)) (l1 : List Int) : Option (Int) := (compassref03_Check.f k a0_0 l0_1).bind fun bt364 => (if bt364.1 = 0 then (if (l1.length : Int) = a0_0 then (compassref11_Supplies.l0 k l1 0 0 a0_0 l0_1) else (some 130)) else (some bt364.1))
set_option maxHeartbeats 8000000 in
set_option maxRecDepth 100000 in
theorem compassref11_Supplies.calls (k : Nat) (a0_0 : Int) (A0_1 : Option Addr) (c0_1 : Nat) (l0_1 : List (S98)) (A1 : Option Addr) (c1 : Nat) (l1 : List Int) (r : Int) (w : World) (hr0_1 : Kd.C k98 w A0_1 l0_1.length l0_1) (hc0_1 : l0_1.length ≤ c0_1) (hr1 : Kd.C (Kd.int .i64) w A1 l1.length l1) (hc1 : l1.length ≤ c1) (h : compassref11_Supplies.f k a0_0 l0_1 l1 = some r) :
    Calls Try.prog 33 #[.agg #[.int .i64 a0_0, .slice A0_1 l0_1.length c0_1], .slice A1 l1.length c1] w fun e w' => e = .returned (.int .i64 r) ∧ Below w.heap.size w w' := by
 have hu24 := Try.underlying24; have HR0_1 := ak hr0_1; have HC0_1 := ak hc0_1; clear hr0_1 hc0_1; have HR1 := ak hr1; have HC1 := ak hc1; clear hr1 hc1; have HB := ak (Below.refl w.heap.size w); have H : ((compassref03_Check.f k a0_0 l0_1).bind fun bt364 => (if bt364.1 = 0 then (if (l1.length : Int) = a0_0 then (compassref11_Supplies.l0 k l1 0 0 a0_0 l0_1) else (some 130)) else (some bt364.1))) = some r := h; clear h; replace H := Option.bind_eq_some_iff.mp H; obtain ⟨⟨t364, t365⟩, A30, H⟩ := H; dsimp only at H; have A3 := ak A30; clear A30
 by_cases c4 : t364 = 0
 rotate_left
 ·
  rw [if_neg c4] at H; have c4b := bn2 c4; obtain rfl := Option.some.inj H
  go_enter Try.func33, Try.ntmps33
  go_wp2_with (first | ((with_reducible refine gate_dst (N := 2) rfl ?_); refine bxe 2 #[.int .i64 a0_0, .slice A0_1 l0_1.length c0_1] 24 ?_; intro gb363 hg w25 hbox hb; have n_ := a4 (bl hb) hbox (gw w hg) (gw w hg); clear HB; obtain ⟨HB, BK363, GW363, GE363⟩ := n_; clear hb hbox hg; have ⟨_, _, _, _⟩ := cf2 BK363) | ((with_reducible refine gate_callee (f := 44) rfl ?_); refine gl 11 Try.func44 #[.agg #[.int .i64 a0_0, .slice A0_1 l0_1.length c0_1]] ?_; (with_reducible refine (compassref03_Check.calls k a0_0 _ _ l0_1 t364 t365 _ (Kd.C_below HR0_1.out lb) HC0_1.out A3.out).mono ?_); rintro e w27 ⟨rfl, hb⟩; refine ⟨_, rfl, ?_⟩; have n_ := a2 (bo BK363 hb) (bl hb); clear BK363 HB; obtain ⟨BK363, HB⟩ := n_; clear hb))
  go_ret
  exact ⟨er, lb⟩

 rw [if_pos c4] at H; have c4b := be2 c4; clear c4
 by_cases c5 : (l1.length : Int) = a0_0
 rotate_left
 ·
  rw [if_neg c5] at H; have c5b := bn2 c5; obtain rfl := Option.some.inj H
  go_enter Try.func33, Try.ntmps33
  go_wp2_with (first | ((with_reducible refine gate_dst (N := 2) rfl ?_); refine bxe 2 #[.int .i64 a0_0, .slice A0_1 l0_1.length c0_1] 24 ?_; intro gb363 hg w21 hbox hb; have n_ := a4 (bl hb) hbox (gw w hg) (gw w hg); clear HB; obtain ⟨HB, BK363, GW363, GE363⟩ := n_; clear hb hbox hg; have ⟨_, _, _, _⟩ := cf2 BK363) | ((with_reducible refine gate_callee (f := 44) rfl ?_); refine gl 11 Try.func44 #[.agg #[.int .i64 a0_0, .slice A0_1 l0_1.length c0_1]] ?_; (with_reducible refine (compassref03_Check.calls k a0_0 _ _ l0_1 t364 t365 _ (Kd.C_below HR0_1.out lb) HC0_1.out A3.out).mono ?_); rintro e w23 ⟨rfl, hb⟩; refine ⟨_, rfl, ?_⟩; have n_ := a2 (bo BK363 hb) (bl hb); clear BK363 HB; obtain ⟨BK363, HB⟩ := n_; clear hb; have ⟨_, _, _, _⟩ := cf2 BK363))
  go_ret
  exact ⟨er, lb⟩
 rw [if_pos c5] at H; have c5b := be2 c5; clear c5; have H' := ak H; clear H
 go_enter Try.func33, Try.ntmps33
 go_wp2_with (first | ((with_reducible refine gate_dst (N := 2) rfl ?_); refine bxe 2 #[.int .i64 a0_0, .slice A0_1 l0_1.length c0_1] 24 ?_; intro gb363 hg w6 hbox hb; have n_ := a4 (bl hb) hbox (gw w hg) (gw w hg); clear HB; obtain ⟨HB, BK363, GW363, GE363⟩ := n_; clear hb hbox hg; have ⟨_, _, _, _⟩ := cf2 BK363) | ((with_reducible refine gate_callee (f := 44) rfl ?_); refine gl 11 Try.func44 #[.agg #[.int .i64 a0_0, .slice A0_1 l0_1.length c0_1]] ?_; (with_reducible refine (compassref03_Check.calls k a0_0 _ _ l0_1 t364 t365 _ (Kd.C_below HR0_1.out lb) HC0_1.out A3.out).mono ?_); rintro e w8 ⟨rfl, hb⟩; refine ⟨_, rfl, ?_⟩; have n_ := a2 (bo BK363 hb) (bl hb); clear BK363 HB; obtain ⟨BK363, HB⟩ := n_; clear hb; have ⟨_, _, _, _⟩ := cf2 BK363))
 go_loopg [7, 8] k (fun kq v7 v8 w' => ∃ (x7_1 : Int) (x8_1 : Int), v7 = .int .i64 x7_1 ∧ v8 = .int .i64 x8_1 ∧ Aside0 (compassref11_Supplies.l0 kq l1 x7_1 x8_1 a0_0 l0_1 = some r) ∧ Aside0 (kq ≤ k) ∧ Aside0 (w'.heap[gb363]? = some (.cells #[.int .i64 a0_0, (.slice A0_1 l0_1.length c0_1)] 24 (0, 0))) ∧ Aside0 (Below w.heap.size w w'))
 case atStart => exact ⟨(0), (0), sr, sr, H', ⟨Nat.le_refl _⟩, xb BK363, ⟨lb⟩⟩
 clear H'; obtain ⟨x7_1, x8_1, rfl, rfl, HA, HK1, BK363, HB⟩ := hrel
 cases gk with
 | zero => exact absurd HA.out (by simp [compassref11_Supplies.l0])
 | succ k1 => ?_
 have H := HA.out; clear HA
 simp only [compassref11_Supplies.l0] at H
 by_cases c10 : x8_1 < a0_0
 rotate_left
 ·
  rw [if_neg c10] at H; have c10b0 := decide_eq_false c10; clear c10
  by_cases c18 : x7_1 = 0
  rotate_left
  ·
   rw [if_neg c18] at H; have c18b := bn2 c18; obtain rfl := Option.some.inj H; have ⟨_, _, _, _⟩ := cf2 BK363
   go_wp2
   go_ret
   exact ⟨er, lb⟩
  rw [if_pos c18] at H; have c18b := be2 c18; clear c18; obtain rfl := Option.some.inj H; have ⟨_, _, _, _⟩ := cf2 BK363
  go_wp2
  go_ret
  exact ⟨er, lb⟩
 rw [if_pos c10] at H; have c10b0 := decide_eq_true c10; clear c10; replace H := if2 H; obtain ⟨c11b0, c12b0, H⟩ := H
 by_cases c13 : (rd l1 x8_1) < (-1048576)
 ·
  rw [if_pos c13] at H; have c13b0 := decide_eq_true c13; clear c13; obtain rfl := Option.some.inj H; have ⟨_, _, _, _⟩ := cf2 BK363; obtain ⟨p366, q366, ad366, e366, hx366_0⟩ := wq (Kd.at_int HR1.out x8_1); cases e366
  (try replace hx366_0 := hbc HB hx366_0)
  go_wp2
  go_ret
  exact ⟨er, lb⟩
 rw [if_neg c13] at H; have c13b0 := decide_eq_false c13; clear c13
 by_cases c15 : (rd l1 x8_1) > 1048576
 ·
  rw [if_pos c15] at H; have c15b0 := decide_eq_true c15; clear c15; obtain rfl := Option.some.inj H; have ⟨_, _, _, _⟩ := cf2 BK363; obtain ⟨p366, q366, ad366, e366, hx366_0⟩ := wq (Kd.at_int HR1.out x8_1); cases e366
  (try replace hx366_0 := hbc HB hx366_0); obtain ⟨p367, q367, ad367, e367, hx367_0⟩ := wq (Kd.at_int HR1.out x8_1)
  obtain rfl : ad366 = ad367 := (by injection e367)
  (try replace hx367_0 := hbc HB hx367_0)
  go_wp2
  go_ret
  exact ⟨er, lb⟩
 rw [if_neg c15] at H; have c15b0 := decide_eq_false c15; clear c15; have H' := ak H; clear H; have ⟨_, _, _, _⟩ := cf2 BK363; obtain ⟨p366, q366, ad366, e366, hx366_0⟩ := wq (Kd.at_int HR1.out x8_1); cases e366
 (try replace hx366_0 := hbc HB hx366_0); obtain ⟨p367, q367, ad367, e367, hx367_0⟩ := wq (Kd.at_int HR1.out x8_1)
 obtain rfl : ad366 = ad367 := (by injection e367)
 (try replace hx367_0 := hbc HB hx367_0); obtain ⟨p368, q368, ad368, e368, hx368_0⟩ := wq (Kd.at_int HR1.out x8_1)
 obtain rfl : ad366 = ad368 := (by injection e368)
 (try replace hx368_0 := hbc HB hx368_0)
 go_wp2
 go_roundg k1
 case measure => have := HK1.out; omega
 case rel => exact ⟨(wrap64 (x7_1 + (rd l1 x8_1))), (wrap64 (x8_1 + 1)), sr, sr, H', ⟨by have := HK1.out; omega⟩, xb BK363, ⟨lb⟩⟩
end Go.Proofs.Ytkdoihcjhccliaa.Q
