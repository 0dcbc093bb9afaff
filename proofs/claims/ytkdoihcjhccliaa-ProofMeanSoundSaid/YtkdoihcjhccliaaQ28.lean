import Derived.Test.YtkdoihcjhccliaaQ0
namespace Go.Proofs.Ytkdoihcjhccliaa.Q
open Go.RowKit Go.Proofs.YtkdoihcjhccliaaW.PrintWords Go.Proofs.YtkdoihcjhccliaaW.PrintLast Go.Proofs.YtkdoihcjhccliaaW.PrintMore
attribute [local go_sem] max2_int min2_int max_two min_two max_three min_three max_four min_four   -- for this text's walks alone
set_option linter.unusedVariables false
set_option linter.unusedSimpArgs false

/-! ### compassref11_Pots: function 63 -/
def compassref11_Pots.l0 : Nat → List Int → Int → Int → List (S98) → Option (Bool)
  | 0, _, _, _, _ => none
  | k + 1, x1, x5, x370000, x370001 => if x5 < x370000 then (if 0 ≤ x5 then (if x5 < (x1.length : Int) then (if (rd x1 x5) < (-4398046511104) then (some false) else (if (rd x1 x5) > 4398046511104 then (some false) else (compassref11_Pots.l0 k x1 (wrap64 (x5 + 1)) x370000 x370001))) else (none)) else (none)) else (some true)
def compassref11_Pots.f (k : Nat) (a0_0 : Int) (l0_1 : List (S98)) (l1 : List Int) : Option (Bool) := if (l1.length : Int) = a0_0 then (compassref11_Pots.l0 k l1 0 a0_0 l0_1) else (some false)
set_option maxHeartbeats 8000000 in
set_option maxRecDepth 100000 in
theorem compassref11_Pots.calls (k : Nat) (a0_0 : Int) (A0_1 : Option Addr) (c0_1 : Nat) (l0_1 : List (S98)) (A1 : Option Addr) (c1 : Nat) (l1 : List Int) (r : Bool) (w : World) (hr0_1 : Kd.C k98 w A0_1 l0_1.length l0_1) (hc0_1 : l0_1.length ≤ c0_1) (hr1 : Kd.C (Kd.int .i64) w A1 l1.length l1) (hc1 : l1.length ≤ c1) (h : compassref11_Pots.f k a0_0 l0_1 l1 = some r) :
    Calls Try.prog 63 #[.agg #[.int .i64 a0_0, .slice A0_1 l0_1.length c0_1], .slice A1 l1.length c1] w fun e w' => e = .returned (.bool r) ∧ Below w.heap.size w w' := by
 have hu24 := Try.underlying24; have HR0_1 := ak hr0_1; have HC0_1 := ak hc0_1; clear hr0_1 hc0_1; have HR1 := ak hr1; have HC1 := ak hc1; clear hr1 hc1; have HB := ak (Below.refl w.heap.size w); have H : (if (l1.length : Int) = a0_0 then (compassref11_Pots.l0 k l1 0 a0_0 l0_1) else (some false)) = some r := h; clear h
 by_cases c3 : (l1.length : Int) = a0_0
 rotate_left
 ·
  rw [if_neg c3] at H; have c3b := bn2 c3; obtain rfl := Option.some.inj H
  go_enter Try.func63, Try.ntmps63
  go_wp2_with (first | ((with_reducible refine gate_dst (N := 2) rfl ?_); refine bxe 2 #[.int .i64 a0_0, .slice A0_1 l0_1.length c0_1] 24 ?_; intro gb369 hg w15 hbox hb; have n_ := a4 (bl hb) hbox (gw w hg) (gw w hg); clear HB; obtain ⟨HB, BK369, GW369, GE369⟩ := n_; clear hb hbox hg; have ⟨_, _, _, _⟩ := cf2 BK369))
  go_ret
  exact ⟨er, lb⟩

 rw [if_pos c3] at H; have c3b := be2 c3; clear c3; have H' := ak H; clear H
 go_enter Try.func63, Try.ntmps63
 go_wp2_with (first | ((with_reducible refine gate_dst (N := 2) rfl ?_); refine bxe 2 #[.int .i64 a0_0, .slice A0_1 l0_1.length c0_1] 24 ?_; intro gb369 hg w4 hbox hb; have n_ := a4 (bl hb) hbox (gw w hg) (gw w hg); clear HB; obtain ⟨HB, BK369, GW369, GE369⟩ := n_; clear hb hbox hg; have ⟨_, _, _, _⟩ := cf2 BK369))
 go_loopg [5] k (fun kq v5 w' => ∃ (x5_1 : Int), v5 = .int .i64 x5_1 ∧ Aside0 (compassref11_Pots.l0 kq l1 x5_1 a0_0 l0_1 = some r) ∧ Aside0 (kq ≤ k) ∧ Aside0 (w'.heap[gb369]? = some (.cells #[.int .i64 a0_0, (.slice A0_1 l0_1.length c0_1)] 24 (0, 0))) ∧ Aside0 (Below w.heap.size w w'))
 case atStart => exact ⟨(0), sr, H', ⟨Nat.le_refl _⟩, xb BK369, ⟨lb⟩⟩
 clear H'; obtain ⟨x5_1, rfl, HA, HK1, BK369, HB⟩ := hrel
 cases gk with
 | zero => exact absurd HA.out (by simp [compassref11_Pots.l0])
 | succ k1 => ?_
 have H := HA.out; clear HA
 simp only [compassref11_Pots.l0] at H
 by_cases c6 : x5_1 < a0_0
 rotate_left
 ·
  rw [if_neg c6] at H; have c6b0 := decide_eq_false c6; clear c6; obtain rfl := Option.some.inj H; have ⟨_, _, _, _⟩ := cf2 BK369
  go_wp2
  go_ret
  exact ⟨er, lb⟩
 rw [if_pos c6] at H; have c6b0 := decide_eq_true c6; clear c6; replace H := if2 H; obtain ⟨c7b0, c8b0, H⟩ := H
 by_cases c9 : (rd l1 x5_1) < (-4398046511104)
 ·
  rw [if_pos c9] at H; have c9b0 := decide_eq_true c9; clear c9; obtain rfl := Option.some.inj H; have ⟨_, _, _, _⟩ := cf2 BK369; obtain ⟨p370, q370, ad370, e370, hx370_0⟩ := wq (Kd.at_int HR1.out x5_1); cases e370
  (try replace hx370_0 := hbc HB hx370_0)
  go_wp2
  go_ret
  exact ⟨er, lb⟩
 rw [if_neg c9] at H; have c9b0 := decide_eq_false c9; clear c9
 by_cases c11 : (rd l1 x5_1) > 4398046511104
 ·
  rw [if_pos c11] at H; have c11b0 := decide_eq_true c11; clear c11; obtain rfl := Option.some.inj H; have ⟨_, _, _, _⟩ := cf2 BK369; obtain ⟨p370, q370, ad370, e370, hx370_0⟩ := wq (Kd.at_int HR1.out x5_1); cases e370
  (try replace hx370_0 := hbc HB hx370_0); obtain ⟨p371, q371, ad371, e371, hx371_0⟩ := wq (Kd.at_int HR1.out x5_1)
  obtain rfl : ad370 = ad371 := (by injection e371)
  (try replace hx371_0 := hbc HB hx371_0)
  go_wp2
  go_ret
  exact ⟨er, lb⟩
 rw [if_neg c11] at H; have c11b0 := decide_eq_false c11; clear c11; have H' := ak H; clear H; have ⟨_, _, _, _⟩ := cf2 BK369; obtain ⟨p370, q370, ad370, e370, hx370_0⟩ := wq (Kd.at_int HR1.out x5_1); cases e370
 (try replace hx370_0 := hbc HB hx370_0); obtain ⟨p371, q371, ad371, e371, hx371_0⟩ := wq (Kd.at_int HR1.out x5_1)
 obtain rfl : ad370 = ad371 := (by injection e371)
 (try replace hx371_0 := hbc HB hx371_0)
 go_wp2
 go_roundg k1
 case measure => have := HK1.out; omega
 case rel => exact ⟨(wrap64 (x5_1 + 1)), sr, H', ⟨by have := HK1.out; omega⟩, xb BK369, ⟨lb⟩⟩
/-! ### compassref11_Reduced: function 64 -/
def compassref11_Reduced.f (a0_0 : Int) (a0_1 : Int) (a0_2 : Int) (a0_3 : Int) (l1 : List Int) : Option (Int) := if 0 ≤ a0_0 then (if a0_0 < (l1.length : Int) then (if 0 ≤ a0_1 then (if a0_1 < (l1.length : Int) then (some (wrap64 ((wrap64 (a0_3 + (rd l1 a0_0))) - (rd l1 a0_1)))) else (none)) else (none)) else (none)) else (none)
set_option maxHeartbeats 8000000 in
set_option maxRecDepth 100000 in
theorem compassref11_Reduced.calls (a0_0 : Int) (a0_1 : Int) (a0_2 : Int) (a0_3 : Int) (A1 : Option Addr) (c1 : Nat) (l1 : List Int) (r : Int) (w : World) (hr1 : Kd.C (Kd.int .i64) w A1 l1.length l1) (hc1 : l1.length ≤ c1) (h : compassref11_Reduced.f a0_0 a0_1 a0_2 a0_3 l1 = some r) :
    Calls Try.prog 64 #[.agg #[.int .i64 a0_0, .int .i64 a0_1, .int .i64 a0_2, .int .i64 a0_3], .slice A1 l1.length c1] w fun e w' => e = .returned (.int .i64 r) ∧ Below w.heap.size w w' := by
 have hu98 := Try.underlying98; have HR1 := ak hr1; have HC1 := ak hc1; clear hr1 hc1; have HB := ak (Below.refl w.heap.size w); have H : (if 0 ≤ a0_0 then (if a0_0 < (l1.length : Int) then (if 0 ≤ a0_1 then (if a0_1 < (l1.length : Int) then (some (wrap64 ((wrap64 (a0_3 + (rd l1 a0_0))) - (rd l1 a0_1)))) else (none)) else (none)) else (none)) else (none)) = some r := h; clear h; replace H := if3 H; obtain ⟨c3b0, c4b0, c5b0, H⟩ := H; replace H := ifd H; obtain ⟨c6b0, H⟩ := H; obtain rfl := Option.some.inj H
 go_enter Try.func64, Try.ntmps64
 go_wp2_with (first | ((with_reducible refine gate_dst (N := 2) rfl ?_); refine bxe 2 #[.int .i64 a0_0, .int .i64 a0_1, .int .i64 a0_2, .int .i64 a0_3] 98 ?_; intro gb372 hg w7 hbox hb; have n_ := a4 (bl hb) hbox (gw w hg) (gw w hg); clear HB; obtain ⟨HB, BK372, GW372, GE372⟩ := n_; clear hb hbox hg; have ⟨_, _, _, _, _, _, _, _⟩ := cf4 BK372; obtain ⟨p373, q373, ad373, e373, hx373_0⟩ := wq (Kd.at_int HR1.out a0_0); cases e373; replace hx373_0 := hbc HB hx373_0; obtain ⟨p374, q374, ad374, e374, hx374_0⟩ := wq (Kd.at_int HR1.out a0_1); obtain rfl : ad373 = ad374 := (by injection e374); replace hx374_0 := hbc HB hx374_0))
 repeat (go_quiet (first | ((with_reducible refine gate_dst (N := 2) rfl ?_); refine bxe 2 #[.int .i64 a0_0, .int .i64 a0_1, .int .i64 a0_2, .int .i64 a0_3] 98 ?_; intro gb372 hg w7 hbox hb; have n_ := a4 (bl hb) hbox (gw w hg) (gw w hg); clear HB; obtain ⟨HB, BK372, GW372, GE372⟩ := n_; clear hb hbox hg; have ⟨_, _, _, _, _, _, _, _⟩ := cf4 BK372; obtain ⟨p373, q373, ad373, e373, hx373_0⟩ := wq (Kd.at_int HR1.out a0_0); cases e373; replace hx373_0 := hbc HB hx373_0; obtain ⟨p374, q374, ad374, e374, hx374_0⟩ := wq (Kd.at_int HR1.out a0_1); obtain rfl : ad373 = ad374 := (by injection e374); replace hx374_0 := hbc HB hx374_0)); try go_wp2_with (first | ((with_reducible refine gate_dst (N := 2) rfl ?_); refine bxe 2 #[.int .i64 a0_0, .int .i64 a0_1, .int .i64 a0_2, .int .i64 a0_3] 98 ?_; intro gb372 hg w7 hbox hb; have n_ := a4 (bl hb) hbox (gw w hg) (gw w hg); clear HB; obtain ⟨HB, BK372, GW372, GE372⟩ := n_; clear hb hbox hg; have ⟨_, _, _, _, _, _, _, _⟩ := cf4 BK372; obtain ⟨p373, q373, ad373, e373, hx373_0⟩ := wq (Kd.at_int HR1.out a0_0); cases e373; replace hx373_0 := hbc HB hx373_0; obtain ⟨p374, q374, ad374, e374, hx374_0⟩ := wq (Kd.at_int HR1.out a0_1); obtain rfl : ad373 = ad374 := (by injection e374); replace hx374_0 := hbc HB hx374_0)))
 go_ret
 exact ⟨er, lb⟩
end Go.Proofs.Ytkdoihcjhccliaa.Q
