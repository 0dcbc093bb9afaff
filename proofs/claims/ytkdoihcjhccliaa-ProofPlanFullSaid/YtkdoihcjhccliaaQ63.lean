import Derived.Test.YtkdoihcjhccliaaV3
import Derived.Test.YtkdoihcjhccliaaQ0
import Derived.Test.YtkdoihcjhccliaaQ3
namespace Go.Proofs.Ytkdoihcjhccliaa.Q
open Go.RowKit Go.Proofs.YtkdoihcjhccliaaW.PrintWords Go.Proofs.YtkdoihcjhccliaaW.PrintLast Go.Proofs.YtkdoihcjhccliaaW.PrintMore
attribute [local go_sem] max2_int min2_int max_two min_two max_three min_three max_four min_four   -- for this text's walks alone
set_option linter.unusedVariables false
set_option linter.unusedSimpArgs false

/-! ### compassref11_room: function 59 -/
def compassref11_room.l0 : Nat → List Int → Int → Int → Int → List (S98) → Option (Int)
  | 0, _, _, _, _, _ => none
  | k + 1, x1, x5, x6, x366000, x366001 => if x6 < (x1.length : Int) then (if 0 ≤ x6 then (if 0 ≤ (rd x1 x6) then (if (rd x1 x6) < (x366001.length : Int) then (if ((rd_T98 x366001 (rd x1 x6)).f2) < x5 then (compassref11_room.l0 k x1 ((rd_T98 x366001 (rd x1 x6)).f2) (wrap64 (x6 + 1)) x366000 x366001) else (compassref11_room.l0 k x1 x5 (wrap64 (x6 + 1)) x366000 x366001)) else (none)) else (none)) else (none)) else (some x5)
def compassref11_room.f (k : Nat) (a0_0 : Int) (l0_1 : List (S98)) (l1 : List Int) : Option (Int) := if 0 < (l1.length : Int) then (if 0 ≤ (rd l1 0) then (if (rd l1 0) < (l0_1.length : Int) then (compassref11_room.l0 k l1 ((rd_T98 l0_1 (rd l1 0)).f2) 1 a0_0 l0_1) else (none)) else (none)) else (none)
set_option maxHeartbeats 8000000 in
set_option maxRecDepth 100000 in
theorem compassref11_room.calls (k : Nat) (a0_0 : Int) (A0_1 : Option Addr) (c0_1 : Nat) (l0_1 : List (S98)) (A1 : Option Addr) (c1 : Nat) (l1 : List Int) (r : Int) (w : World) (hr0_1 : Kd.C k98 w A0_1 l0_1.length l0_1) (hc0_1 : l0_1.length ≤ c0_1) (hr1 : Kd.C (Kd.int .i64) w A1 l1.length l1) (hc1 : l1.length ≤ c1) (h : compassref11_room.f k a0_0 l0_1 l1 = some r) :
    Calls Try.prog 59 #[.agg #[.int .i64 a0_0, .slice A0_1 l0_1.length c0_1], .slice A1 l1.length c1] w fun e w' => e = .returned (.int .i64 r) ∧ Below w.heap.size w w' := by
 have hu24 := Try.underlying24; have HR0_1 := ak hr0_1; have HC0_1 := ak hc0_1; clear hr0_1 hc0_1; have HR1 := ak hr1; have HC1 := ak hc1; clear hr1 hc1; have HB := ak (Below.refl w.heap.size w); have H : (if 0 < (l1.length : Int) then (if 0 ≤ (rd l1 0) then (if (rd l1 0) < (l0_1.length : Int) then (compassref11_room.l0 k l1 ((rd_T98 l0_1 (rd l1 0)).f2) 1 a0_0 l0_1) else (none)) else (none)) else (none)) = some r := h; clear h; replace H := ifn H; obtain ⟨c3, H⟩ := H; have c3b0 := decide_eq_true c3
 have c3b1 : decide (0 < l1.length) = true := decide_eq_true (by omega)
 clear c3; replace H := if2 H; obtain ⟨c4b0, c5b0, H⟩ := H; have H' := ak H; clear H
 go_enter Try.func59, Try.ntmps59
 go_wp2_with (first | ((with_reducible refine gate_dst (N := 2) rfl ?_); refine bxe 2 #[.int .i64 a0_0, .slice A0_1 l0_1.length c0_1] 24 ?_; intro gb365 hg w6 hbox hb; have n_ := a4 (bl hb) hbox (gw w hg) (gw w hg); clear HB; obtain ⟨HB, BK365, GW365, GE365⟩ := n_; clear hb hbox hg; have ⟨_, _, _, _⟩ := cf2 BK365; have p366 : 0 ≤ (0 : Int) := (by omega); have q366 : 0 < (l1.length : Int) := oda; obtain ⟨ad366, e366, hx366_0⟩ := Kd.at_int HR1.out 0 p366 q366; cases e366; have qi366 : (0 < l1.length) = True := eq_true (by omega); (try rw [show ((0 : Int)).toNat = 0 from rfl] at hx366_0); (try rw [Addr.add_zero'] at hx366_0); replace hx366_0 := hbc HB hx366_0; replace p366 := eq_true p366; replace q366 := eq_true q366; obtain ⟨p367, q367, ad367, e367, hx367_0, hx367_1, hx367_2, hx367_3⟩ := wq (at_T98 HR0_1.out (rd l1 0)); cases e367; replace hx367_0 := hbc HB hx367_0; replace hx367_1 := hbc HB hx367_1; replace hx367_2 := hbc HB hx367_2; replace hx367_3 := hbc HB hx367_3))
 repeat (go_quiet (first | ((with_reducible refine gate_dst (N := 2) rfl ?_); refine bxe 2 #[.int .i64 a0_0, .slice A0_1 l0_1.length c0_1] 24 ?_; intro gb365 hg w6 hbox hb; have n_ := a4 (bl hb) hbox (gw w hg) (gw w hg); clear HB; obtain ⟨HB, BK365, GW365, GE365⟩ := n_; clear hb hbox hg; have ⟨_, _, _, _⟩ := cf2 BK365; have p366 : 0 ≤ (0 : Int) := (by omega); have q366 : 0 < (l1.length : Int) := oda; obtain ⟨ad366, e366, hx366_0⟩ := Kd.at_int HR1.out 0 p366 q366; cases e366; have qi366 : (0 < l1.length) = True := eq_true (by omega); (try rw [show ((0 : Int)).toNat = 0 from rfl] at hx366_0); (try rw [Addr.add_zero'] at hx366_0); replace hx366_0 := hbc HB hx366_0; replace p366 := eq_true p366; replace q366 := eq_true q366; obtain ⟨p367, q367, ad367, e367, hx367_0, hx367_1, hx367_2, hx367_3⟩ := wq (at_T98 HR0_1.out (rd l1 0)); cases e367; replace hx367_0 := hbc HB hx367_0; replace hx367_1 := hbc HB hx367_1; replace hx367_2 := hbc HB hx367_2; replace hx367_3 := hbc HB hx367_3)); try go_wp2_with (first | ((with_reducible refine gate_dst (N := 2) rfl ?_); refine bxe 2 #[.int .i64 a0_0, .slice A0_1 l0_1.length c0_1] 24 ?_; intro gb365 hg w6 hbox hb; have n_ := a4 (bl hb) hbox (gw w hg) (gw w hg); clear HB; obtain ⟨HB, BK365, GW365, GE365⟩ := n_; clear hb hbox hg; have ⟨_, _, _, _⟩ := cf2 BK365; have p366 : 0 ≤ (0 : Int) := (by omega); have q366 : 0 < (l1.length : Int) := oda; obtain ⟨ad366, e366, hx366_0⟩ := Kd.at_int HR1.out 0 p366 q366; cases e366; have qi366 : (0 < l1.length) = True := eq_true (by omega); (try rw [show ((0 : Int)).toNat = 0 from rfl] at hx366_0); (try rw [Addr.add_zero'] at hx366_0); replace hx366_0 := hbc HB hx366_0; replace p366 := eq_true p366; replace q366 := eq_true q366; obtain ⟨p367, q367, ad367, e367, hx367_0, hx367_1, hx367_2, hx367_3⟩ := wq (at_T98 HR0_1.out (rd l1 0)); cases e367; replace hx367_0 := hbc HB hx367_0; replace hx367_1 := hbc HB hx367_1; replace hx367_2 := hbc HB hx367_2; replace hx367_3 := hbc HB hx367_3)))
 go_loopg [5, 6] k (fun kq v5 v6 w' => ∃ (x5_1 : Int) (x6_1 : Int), v5 = .int .i64 x5_1 ∧ v6 = .int .i64 x6_1 ∧ Aside0 (compassref11_room.l0 kq l1 x5_1 x6_1 a0_0 l0_1 = some r) ∧ Aside0 (kq ≤ k) ∧ Aside0 (w'.heap[gb365]? = some (.cells #[.int .i64 a0_0, (.slice (some ad367) l0_1.length c0_1)] 24 (0, 0))) ∧ Aside0 (Below w.heap.size w w'))
 case atStart => exact ⟨((rd_T98 l0_1 (rd l1 0)).f2), (1), sr, sr, H', ⟨Nat.le_refl _⟩, xb BK365, ⟨lb⟩⟩
 clear H'; obtain ⟨x5_1, x6_1, rfl, rfl, HA, HK1, BK365, HB⟩ := hrel
 cases gk with
 | zero => exact absurd HA.out (by simp [compassref11_room.l0])
 | succ k1 => ?_
 have H := HA.out; clear HA
 simp only [compassref11_room.l0] at H
 by_cases c8 : x6_1 < (l1.length : Int)
 rotate_left
 ·
  rw [if_neg c8] at H; have c8b0 := decide_eq_false c8; clear c8; obtain rfl := Option.some.inj H
  go_wp2
  repeat (go_quiet (fail); try go_wp2)
  go_ret
  exact ⟨er, lb⟩
 rw [if_pos c8] at H; have c8b0 := decide_eq_true c8; clear c8; replace H := if3 H; obtain ⟨c9b0, c10b0, c11b0, H⟩ := H
 by_cases c12 : ((rd_T98 l0_1 (rd l1 x6_1)).f2) < x5_1
 rotate_left
 ·
  rw [if_neg c12] at H; have c12b0 := decide_eq_false c12; clear c12; have H' := ak H; clear H; have ⟨_, _, _, _⟩ := cf2 BK365; obtain ⟨p368, q368, ad368, e368, hx368_0⟩ := wq (Kd.at_int HR1.out x6_1)
  obtain rfl : ad366 = ad368 := (by injection e368)
  (try replace hx368_0 := hbc HB hx368_0); obtain ⟨p369, q369, ad369, e369, hx369_0, hx369_1, hx369_2, hx369_3⟩ := wq (at_T98 HR0_1.out (rd l1 x6_1))
  obtain rfl : ad367 = ad369 := (by injection e369)
  (try replace hx369_0 := hbc HB hx369_0)
  (try replace hx369_1 := hbc HB hx369_1)
  (try replace hx369_2 := hbc HB hx369_2)
  (try replace hx369_3 := hbc HB hx369_3)
  go_wp2
  repeat (go_quiet (fail); try go_wp2)
  go_roundg k1
  case measure => have := HK1.out; omega
  case rel => exact ⟨(x5_1), (wrap64 (x6_1 + 1)), sr, sr, H', ⟨by have := HK1.out; omega⟩, xb BK365, ⟨lb⟩⟩
 rw [if_pos c12] at H; have c12b0 := decide_eq_true c12; clear c12; have H' := ak H; clear H; have ⟨_, _, _, _⟩ := cf2 BK365; obtain ⟨p368, q368, ad368, e368, hx368_0⟩ := wq (Kd.at_int HR1.out x6_1)
 obtain rfl : ad366 = ad368 := (by injection e368)
 (try replace hx368_0 := hbc HB hx368_0); obtain ⟨p369, q369, ad369, e369, hx369_0, hx369_1, hx369_2, hx369_3⟩ := wq (at_T98 HR0_1.out (rd l1 x6_1))
 obtain rfl : ad367 = ad369 := (by injection e369)
 (try replace hx369_0 := hbc HB hx369_0)
 (try replace hx369_1 := hbc HB hx369_1)
 (try replace hx369_2 := hbc HB hx369_2)
 (try replace hx369_3 := hbc HB hx369_3); obtain ⟨p370, q370, ad370, e370, hx370_0⟩ := wq (Kd.at_int HR1.out x6_1)
 obtain rfl : ad366 = ad370 := (by injection e370)
 (try replace hx370_0 := hbc HB hx370_0); obtain ⟨p371, q371, ad371, e371, hx371_0, hx371_1, hx371_2, hx371_3⟩ := wq (at_T98 HR0_1.out (rd l1 x6_1))
 obtain rfl : ad367 = ad371 := (by injection e371)
 (try replace hx371_0 := hbc HB hx371_0)
 (try replace hx371_1 := hbc HB hx371_1)
 (try replace hx371_2 := hbc HB hx371_2)
 (try replace hx371_3 := hbc HB hx371_3)
 go_wp2
 repeat (go_quiet (fail); try go_wp2)
 go_roundg k1
 case measure => have := HK1.out; omega
 case rel => exact ⟨((rd_T98 l0_1 (rd l1 x6_1)).f2), (wrap64 (x6_1 + 1)), sr, sr, H', ⟨by have := HK1.out; omega⟩, xb BK365, ⟨lb⟩⟩
end Go.Proofs.Ytkdoihcjhccliaa.Q
