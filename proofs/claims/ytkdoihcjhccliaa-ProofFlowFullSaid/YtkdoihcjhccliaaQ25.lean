import Derived.Test.YtkdoihcjhccliaaQ0
namespace Go.Proofs.Ytkdoihcjhccliaa.Q
open Go.RowKit Go.Proofs.YtkdoihcjhccliaaW.PrintWords Go.Proofs.YtkdoihcjhccliaaW.PrintLast Go.Proofs.YtkdoihcjhccliaaW.PrintMore
attribute [local go_sem] max2_int min2_int max_two min_two max_three min_three max_four min_four   -- for this text's walks alone
set_option linter.unusedVariables false
set_option linter.unusedSimpArgs false

/-! ### compassref11_Cut: function 54 -/
def compassref11_Cut.l0 : Nat → List Bool → Int → Int → Int → List (S98) → Option (Int)
  | 0, _, _, _, _, _ => none
  | k + 1, x1, x5, x6, x342000, x342001 => if x6 < (x342001.length : Int) then (if 0 ≤ x6 then (if 0 ≤ ((rd_T98 x342001 x6).f0) then (if ((rd_T98 x342001 x6).f0) < (x1.length : Int) then (if rdOf false x1 ((rd_T98 x342001 x6).f0) = true then (if 0 ≤ ((rd_T98 x342001 x6).f1) then (if ((rd_T98 x342001 x6).f1) < (x1.length : Int) then (if (rdOf false x1 ((rd_T98 x342001 x6).f1) = true) then (compassref11_Cut.l0 k x1 x5 (wrap64 (x6 + 1)) x342000 x342001) else (compassref11_Cut.l0 k x1 (wrap64 (x5 + ((rd_T98 x342001 x6).f2))) (wrap64 (x6 + 1)) x342000 x342001)) else (none)) else (none)) else (compassref11_Cut.l0 k x1 x5 (wrap64 (x6 + 1)) x342000 x342001)) else (none)) else (none)) else (none)) else (some x5)
def compassref11_Cut.f (k : Nat) (a0_0 : Int) (l0_1 : List (S98)) (l1 : List Bool) : Option (Int) := compassref11_Cut.l0 k l1 0 0 a0_0 l0_1
set_option maxHeartbeats 8000000 in
set_option maxRecDepth 100000 in
theorem compassref11_Cut.calls (k : Nat) (a0_0 : Int) (A0_1 : Option Addr) (c0_1 : Nat) (l0_1 : List (S98)) (A1 : Option Addr) (c1 : Nat) (l1 : List Bool) (r : Int) (w : World) (hr0_1 : Kd.C k98 w A0_1 l0_1.length l0_1) (hc0_1 : l0_1.length ≤ c0_1) (hr1 : Kd.C Kd.bool w A1 l1.length l1) (hc1 : l1.length ≤ c1) (h : compassref11_Cut.f k a0_0 l0_1 l1 = some r) :
    Calls Try.prog 54 #[.agg #[.int .i64 a0_0, .slice A0_1 l0_1.length c0_1], .slice A1 l1.length c1] w fun e w' => e = .returned (.int .i64 r) ∧ Below w.heap.size w w' := by
 have hu24 := Try.underlying24; have HR0_1 := ak hr0_1; have HC0_1 := ak hc0_1; clear hr0_1 hc0_1; have HR1 := ak hr1; have HC1 := ak hc1; clear hr1 hc1; have HB := ak (Below.refl w.heap.size w); have H : (compassref11_Cut.l0 k l1 0 0 a0_0 l0_1) = some r := h; clear h; have H' := ak H; clear H
 go_enter Try.func54, Try.ntmps54
 go_wp2_with (first | ((with_reducible refine gate_dst (N := 2) rfl ?_); refine bxe 2 #[.int .i64 a0_0, .slice A0_1 l0_1.length c0_1] 24 ?_; intro gb341 hg w3 hbox hb; have n_ := a4 (bl hb) hbox (gw w hg) (gw w hg); clear HB; obtain ⟨HB, BK341, GW341, GE341⟩ := n_; clear hb hbox hg))
 go_loopg [5, 6] k (fun kq v5 v6 w' => ∃ (x5_1 : Int) (x6_1 : Int), v5 = .int .i64 x5_1 ∧ v6 = .int .i64 x6_1 ∧ Aside0 (compassref11_Cut.l0 kq l1 x5_1 x6_1 a0_0 l0_1 = some r) ∧ Aside0 (kq ≤ k) ∧ Aside0 (w'.heap[gb341]? = some (.cells #[.int .i64 a0_0, (.slice A0_1 l0_1.length c0_1)] 24 (0, 0))) ∧ Aside0 (Below w.heap.size w w'))
 case atStart => exact ⟨(0), (0), sr, sr, H', ⟨Nat.le_refl _⟩, xb BK341, ⟨lb⟩⟩
 clear H'; obtain ⟨x5_1, x6_1, rfl, rfl, HA, HK1, BK341, HB⟩ := hrel
 cases gk with
 | zero => exact absurd HA.out (by simp [compassref11_Cut.l0])
 | succ k1 => ?_
 have H := HA.out; clear HA
 simp only [compassref11_Cut.l0] at H
 by_cases c4 : x6_1 < (l0_1.length : Int)
 rotate_left
 ·
  rw [if_neg c4] at H; have c4b0 := decide_eq_false c4; clear c4; obtain rfl := Option.some.inj H; have ⟨_, _, _, _⟩ := cf2 BK341
  go_wp2
  go_ret
  exact ⟨er, lb⟩

 rw [if_pos c4] at H; have c4b0 := decide_eq_true c4; clear c4; replace H := if3 H; obtain ⟨c5b0, c6b0, c7b0, H⟩ := H; obtain ⟨bq8, hbq8⟩ : ∃ b_ : Bool, b_ = (rdOf false l1 ((rd_T98 l0_1 x6_1).f0)) := ⟨_, rfl⟩; replace H : (if bq8 = true then (if 0 ≤ ((rd_T98 l0_1 x6_1).f1) then (if ((rd_T98 l0_1 x6_1).f1) < (l1.length : Int) then (if (rdOf false l1 ((rd_T98 l0_1 x6_1).f1) = true) then (compassref11_Cut.l0 k1 l1 x5_1 (wrap64 (x6_1 + 1)) a0_0 l0_1) else (compassref11_Cut.l0 k1 l1 (wrap64 (x5_1 + ((rd_T98 l0_1 x6_1).f2))) (wrap64 (x6_1 + 1)) a0_0 l0_1)) else (none)) else (none)) else (compassref11_Cut.l0 k1 l1 x5_1 (wrap64 (x6_1 + 1)) a0_0 l0_1)) = some r := by rw [← hbq8] at H; exact H
 have Nbq8 := ak hbq8; clear hbq8
 by_cases c9 : bq8 = true
 rotate_left
 ·
  replace c9 := Bool.eq_false_iff.mpr c9; subst c9
  have H1 : (compassref11_Cut.l0 k1 l1 x5_1 (wrap64 (x6_1 + 1)) a0_0 l0_1) = some r := by rw [if_neg (show ¬ (false = true) by decide)] at H; exact H
  clear H; have H := H1; clear H1; have H' := ak H; clear H; have ⟨_, _, _, _⟩ := cf2 BK341; obtain ⟨p342, q342, ad342, e342, hx342_0, hx342_1, hx342_2, hx342_3⟩ := wq (at_T98 HR0_1.out x6_1); cases e342
  (try replace hx342_0 := hbc HB hx342_0)
  (try replace hx342_1 := hbc HB hx342_1)
  (try replace hx342_2 := hbc HB hx342_2)
  (try replace hx342_3 := hbc HB hx342_3); obtain ⟨p343, q343, ad343, e343, hx343_0⟩ := wq (Kd.at_bool HR1.out ((rd_T98 l0_1 x6_1).f0))
  (try rw [← Nbq8.out] at hx343_0)
  cases e343
  (try replace hx343_0 := hbc HB hx343_0)
  go_wp2
  go_roundg k1
  case measure => have := HK1.out; omega
  case rel => exact ⟨(x5_1), (wrap64 (x6_1 + 1)), sr, sr, H', ⟨by have := HK1.out; omega⟩, xb BK341, ⟨lb⟩⟩
 subst c9
 replace H := ip H; replace H := if2 H; obtain ⟨c10b0, c11b0, H⟩ := H; obtain ⟨bq12, hbq12⟩ : ∃ b_ : Bool, b_ = (rdOf false l1 ((rd_T98 l0_1 x6_1).f1)) := ⟨_, rfl⟩; replace H : (if (bq12 = true) then (compassref11_Cut.l0 k1 l1 x5_1 (wrap64 (x6_1 + 1)) a0_0 l0_1) else (compassref11_Cut.l0 k1 l1 (wrap64 (x5_1 + ((rd_T98 l0_1 x6_1).f2))) (wrap64 (x6_1 + 1)) a0_0 l0_1)) = some r := by rw [← hbq12] at H; exact H
 have Nbq12 := ak hbq12; clear hbq12
 by_cases c13 : (bq12 = true)
 ·
  subst c13
  replace H := ip H; have H' := ak H; clear H; have ⟨_, _, _, _⟩ := cf2 BK341; obtain ⟨p342, q342, ad342, e342, hx342_0, hx342_1, hx342_2, hx342_3⟩ := wq (at_T98 HR0_1.out x6_1); cases e342
  (try replace hx342_0 := hbc HB hx342_0)
  (try replace hx342_1 := hbc HB hx342_1)
  (try replace hx342_2 := hbc HB hx342_2)
  (try replace hx342_3 := hbc HB hx342_3); obtain ⟨p343, q343, ad343, e343, hx343_0⟩ := wq (Kd.at_bool HR1.out ((rd_T98 l0_1 x6_1).f0))
  (try rw [← Nbq8.out] at hx343_0)
  (try rw [← Nbq12.out] at hx343_0)
  cases e343
  (try replace hx343_0 := hbc HB hx343_0); obtain ⟨p344, q344, ad344, e344, hx344_0, hx344_1, hx344_2, hx344_3⟩ := wq (at_T98 HR0_1.out x6_1)
  obtain rfl : ad342 = ad344 := (by injection e344)
  (try replace hx344_0 := hbc HB hx344_0)
  (try replace hx344_1 := hbc HB hx344_1)
  (try replace hx344_2 := hbc HB hx344_2)
  (try replace hx344_3 := hbc HB hx344_3); obtain ⟨p345, q345, ad345, e345, hx345_0⟩ := wq (Kd.at_bool HR1.out ((rd_T98 l0_1 x6_1).f1))
  (try rw [← Nbq8.out] at hx345_0)
  (try rw [← Nbq12.out] at hx345_0)
  obtain rfl : ad343 = ad345 := (by injection e345)
  (try replace hx345_0 := hbc HB hx345_0)
  go_wp2
  go_roundg k1
  case measure => have := HK1.out; omega
  case rel => exact ⟨(x5_1), (wrap64 (x6_1 + 1)), sr, sr, H', ⟨by have := HK1.out; omega⟩, xb BK341, ⟨lb⟩⟩
 replace c13 := Bool.eq_false_iff.mpr c13; subst c13
 have H1 : (compassref11_Cut.l0 k1 l1 (wrap64 (x5_1 + ((rd_T98 l0_1 x6_1).f2))) (wrap64 (x6_1 + 1)) a0_0 l0_1) = some r := by rw [if_neg (show ¬ (false = true) by decide)] at H; exact H
 clear H; have H := H1; clear H1; have H' := ak H; clear H; have ⟨_, _, _, _⟩ := cf2 BK341; obtain ⟨p342, q342, ad342, e342, hx342_0, hx342_1, hx342_2, hx342_3⟩ := wq (at_T98 HR0_1.out x6_1); cases e342
 (try replace hx342_0 := hbc HB hx342_0)
 (try replace hx342_1 := hbc HB hx342_1)
 (try replace hx342_2 := hbc HB hx342_2)
 (try replace hx342_3 := hbc HB hx342_3); obtain ⟨p343, q343, ad343, e343, hx343_0⟩ := wq (Kd.at_bool HR1.out ((rd_T98 l0_1 x6_1).f0))
 (try rw [← Nbq8.out] at hx343_0)
 (try rw [← Nbq12.out] at hx343_0)
 cases e343
 (try replace hx343_0 := hbc HB hx343_0); obtain ⟨p344, q344, ad344, e344, hx344_0, hx344_1, hx344_2, hx344_3⟩ := wq (at_T98 HR0_1.out x6_1)
 obtain rfl : ad342 = ad344 := (by injection e344)
 (try replace hx344_0 := hbc HB hx344_0)
 (try replace hx344_1 := hbc HB hx344_1)
 (try replace hx344_2 := hbc HB hx344_2)
 (try replace hx344_3 := hbc HB hx344_3); obtain ⟨p345, q345, ad345, e345, hx345_0⟩ := wq (Kd.at_bool HR1.out ((rd_T98 l0_1 x6_1).f1))
 (try rw [← Nbq8.out] at hx345_0)
 (try rw [← Nbq12.out] at hx345_0)
 obtain rfl : ad343 = ad345 := (by injection e345)
 (try replace hx345_0 := hbc HB hx345_0); obtain ⟨p346, q346, ad346, e346, hx346_0, hx346_1, hx346_2, hx346_3⟩ := wq (at_T98 HR0_1.out x6_1)
 obtain rfl : ad342 = ad346 := (by injection e346)
 (try replace hx346_0 := hbc HB hx346_0)
 (try replace hx346_1 := hbc HB hx346_1)
 (try replace hx346_2 := hbc HB hx346_2)
 (try replace hx346_3 := hbc HB hx346_3)
 go_wp2
 go_roundg k1
 case measure => have := HK1.out; omega
 case rel => exact ⟨(wrap64 (x5_1 + ((rd_T98 l0_1 x6_1).f2))), (wrap64 (x6_1 + 1)), sr, sr, H', ⟨by have := HK1.out; omega⟩, xb BK341, ⟨lb⟩⟩
end Go.Proofs.Ytkdoihcjhccliaa.Q
