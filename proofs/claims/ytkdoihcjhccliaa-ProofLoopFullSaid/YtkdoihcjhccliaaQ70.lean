import Derived.Test.YtkdoihcjhccliaaV4
import Derived.Test.YtkdoihcjhccliaaQ0
import Derived.Test.YtkdoihcjhccliaaQ3
namespace Go.Proofs.Ytkdoihcjhccliaa.Q
open Go.RowKit Go.Proofs.YtkdoihcjhccliaaW.PrintWords Go.Proofs.YtkdoihcjhccliaaW.PrintLast Go.Proofs.YtkdoihcjhccliaaW.PrintMore
attribute [local go_sem] max2_int min2_int max_two min_two max_three min_three max_four min_four   -- for this text's walks alone
set_option linter.unusedVariables false
set_option linter.unusedSimpArgs false

/-! ### compassref04_may: function 81 -/
def compassref04_may.l0 : Nat → List Bool → Int → Int → Int → List (S98) → Option (Bool)
  | 0, _, _, _, _, _ => none
  | k + 1, x1, x2, x7, x426000, x426001 => if x7 < (x426001.length : Int) then (if 0 ≤ x7 then (if ((rd_T98 x426001 x7).f1) = x2 then (if 0 ≤ ((rd_T98 x426001 x7).f0) then (if ((rd_T98 x426001 x7).f0) < (x1.length : Int) then (if (rdOf false x1 ((rd_T98 x426001 x7).f0) = true) then (compassref04_may.l0 k x1 x2 (wrap64 (x7 + 1)) x426000 x426001) else (some false)) else (none)) else (none)) else (compassref04_may.l0 k x1 x2 (wrap64 (x7 + 1)) x426000 x426001)) else (none)) else (some true)
def compassref04_may.f (k : Nat) (a0_0 : Int) (l0_1 : List (S98)) (l1 : List Bool) (a2 : Int) : Option (Bool) := compassref04_may.l0 k l1 a2 0 a0_0 l0_1
set_option maxHeartbeats 8000000 in
set_option maxRecDepth 100000 in
theorem compassref04_may.calls (k : Nat) (a0_0 : Int) (A0_1 : Option Addr) (c0_1 : Nat) (l0_1 : List (S98)) (A1 : Option Addr) (c1 : Nat) (l1 : List Bool) (a2 : Int) (r : Bool) (w : World) (hr0_1 : Kd.C k98 w A0_1 l0_1.length l0_1) (hc0_1 : l0_1.length ≤ c0_1) (hr1 : Kd.C Kd.bool w A1 l1.length l1) (hc1 : l1.length ≤ c1) (h : compassref04_may.f k a0_0 l0_1 l1 a2 = some r) :
    Calls Try.prog 81 #[.agg #[.int .i64 a0_0, .slice A0_1 l0_1.length c0_1], .slice A1 l1.length c1, .int .i64 a2] w fun e w' => e = .returned (.bool r) ∧ Below w.heap.size w w' := by
 have hu24 := Try.underlying24; have HR0_1 := ak hr0_1; have HC0_1 := ak hc0_1; clear hr0_1 hc0_1; have HR1 := ak hr1; have HC1 := ak hc1; clear hr1 hc1; have HB := ak (Below.refl w.heap.size w); have H : (compassref04_may.l0 k l1 a2 0 a0_0 l0_1) = some r := h; clear h; have H' := ak H; clear H
 go_enter Try.func81, Try.ntmps81
 go_wp2_with (first | ((with_reducible refine gate_dst (N := 3) rfl ?_); refine bxe 3 #[.int .i64 a0_0, .slice A0_1 l0_1.length c0_1] 24 ?_; intro gb425 hg w4 hbox hb; have n_ := a4 (bl hb) hbox (gw w hg) (gw w hg); clear HB; obtain ⟨HB, BK425, GW425, GE425⟩ := n_; clear hb hbox hg))
 go_loopg [7] k (fun kq v7 w' => ∃ (x7_1 : Int), v7 = .int .i64 x7_1 ∧ Aside0 (compassref04_may.l0 kq l1 a2 x7_1 a0_0 l0_1 = some r) ∧ Aside0 (kq ≤ k) ∧ Aside0 (w'.heap[gb425]? = some (.cells #[.int .i64 a0_0, (.slice A0_1 l0_1.length c0_1)] 24 (0, 0))) ∧ Aside0 (Below w.heap.size w w'))
 case atStart => exact ⟨(0), sr, H', ⟨Nat.le_refl _⟩, xb BK425, ⟨lb⟩⟩
 clear H'; obtain ⟨x7_1, rfl, HA, HK1, BK425, HB⟩ := hrel
 cases gk with
 | zero => exact absurd HA.out (by simp [compassref04_may.l0])
 | succ k1 => ?_
 have H := HA.out; clear HA
 simp only [compassref04_may.l0] at H
 by_cases c5 : x7_1 < (l0_1.length : Int)
 rotate_left
 ·
  rw [if_neg c5] at H; have c5b0 := decide_eq_false c5; clear c5; obtain rfl := Option.some.inj H; have ⟨_, _, _, _⟩ := cf2 BK425
  go_wp2
  go_ret
  exact ⟨er, lb⟩
 rw [if_pos c5] at H; have c5b0 := decide_eq_true c5; clear c5; replace H := ifd H; obtain ⟨c6b0, H⟩ := H
 by_cases c7 : ((rd_T98 l0_1 x7_1).f1) = a2
 rotate_left
 ·
  rw [if_neg c7] at H; have c7b := bn2 c7; have H' := ak H; clear H; have ⟨_, _, _, _⟩ := cf2 BK425; obtain ⟨p426, q426, ad426, e426, hx426_0, hx426_1, hx426_2, hx426_3⟩ := wq (at_T98 HR0_1.out x7_1); cases e426
  (try replace hx426_0 := hbc HB hx426_0)
  (try replace hx426_1 := hbc HB hx426_1)
  (try replace hx426_2 := hbc HB hx426_2)
  (try replace hx426_3 := hbc HB hx426_3)
  go_wp2
  go_roundg k1
  case measure => have := HK1.out; omega
  case rel => exact ⟨(wrap64 (x7_1 + 1)), sr, H', ⟨by have := HK1.out; omega⟩, xb BK425, ⟨lb⟩⟩
 rw [if_pos c7] at H; have c7b := be2 c7; clear c7; replace H := if2 H; obtain ⟨c8b0, c9b0, H⟩ := H; obtain ⟨bq10, hbq10⟩ : ∃ b_ : Bool, b_ = (rdOf false l1 ((rd_T98 l0_1 x7_1).f0)) := ⟨_, rfl⟩; replace H : (if (bq10 = true) then (compassref04_may.l0 k1 l1 a2 (wrap64 (x7_1 + 1)) a0_0 l0_1) else (some false)) = some r := by rw [← hbq10] at H; exact H
 have Nbq10 := ak hbq10; clear hbq10
 by_cases c11 : (bq10 = true)
 rotate_left
 ·
  replace c11 := Bool.eq_false_iff.mpr c11; subst c11
  have H1 : (some false) = some r := by rw [if_neg (show ¬ (false = true) by decide)] at H; exact H
  clear H; have H := H1; clear H1; obtain rfl := Option.some.inj H; have ⟨_, _, _, _⟩ := cf2 BK425; obtain ⟨p426, q426, ad426, e426, hx426_0, hx426_1, hx426_2, hx426_3⟩ := wq (at_T98 HR0_1.out x7_1); cases e426
  (try replace hx426_0 := hbc HB hx426_0)
  (try replace hx426_1 := hbc HB hx426_1)
  (try replace hx426_2 := hbc HB hx426_2)
  (try replace hx426_3 := hbc HB hx426_3); obtain ⟨p427, q427, ad427, e427, hx427_0, hx427_1, hx427_2, hx427_3⟩ := wq (at_T98 HR0_1.out x7_1)
  obtain rfl : ad426 = ad427 := (by injection e427)
  (try replace hx427_0 := hbc HB hx427_0)
  (try replace hx427_1 := hbc HB hx427_1)
  (try replace hx427_2 := hbc HB hx427_2)
  (try replace hx427_3 := hbc HB hx427_3); obtain ⟨p428, q428, ad428, e428, hx428_0⟩ := wq (Kd.at_bool HR1.out ((rd_T98 l0_1 x7_1).f0))
  (try rw [← Nbq10.out] at hx428_0)
  cases e428
  (try replace hx428_0 := hbc HB hx428_0)
  go_wp2
  go_ret
  exact ⟨er, lb⟩
 subst c11
 replace H := ip H; have H' := ak H; clear H; have ⟨_, _, _, _⟩ := cf2 BK425; obtain ⟨p426, q426, ad426, e426, hx426_0, hx426_1, hx426_2, hx426_3⟩ := wq (at_T98 HR0_1.out x7_1); cases e426
 (try replace hx426_0 := hbc HB hx426_0)
 (try replace hx426_1 := hbc HB hx426_1)
 (try replace hx426_2 := hbc HB hx426_2)
 (try replace hx426_3 := hbc HB hx426_3); obtain ⟨p427, q427, ad427, e427, hx427_0, hx427_1, hx427_2, hx427_3⟩ := wq (at_T98 HR0_1.out x7_1)
 obtain rfl : ad426 = ad427 := (by injection e427)
 (try replace hx427_0 := hbc HB hx427_0)
 (try replace hx427_1 := hbc HB hx427_1)
 (try replace hx427_2 := hbc HB hx427_2)
 (try replace hx427_3 := hbc HB hx427_3); obtain ⟨p428, q428, ad428, e428, hx428_0⟩ := wq (Kd.at_bool HR1.out ((rd_T98 l0_1 x7_1).f0))
 (try rw [← Nbq10.out] at hx428_0)
 cases e428
 (try replace hx428_0 := hbc HB hx428_0)
 go_wp2
 go_roundg k1
 case measure => have := HK1.out; omega
 case rel => exact ⟨(wrap64 (x7_1 + 1)), sr, H', ⟨by have := HK1.out; omega⟩, xb BK425, ⟨lb⟩⟩
end Go.Proofs.Ytkdoihcjhccliaa.Q
