import Derived.Test.YtkdoihcjhccliaaQ0
namespace Go.Proofs.Ytkdoihcjhccliaa.Q
open Go.RowKit Go.Proofs.YtkdoihcjhccliaaW.PrintWords Go.Proofs.YtkdoihcjhccliaaW.PrintLast Go.Proofs.YtkdoihcjhccliaaW.PrintMore
attribute [local go_sem] max2_int min2_int max_two min_two max_three min_three max_four min_four   -- for this text's walks alone
set_option linter.unusedVariables false
set_option linter.unusedSimpArgs false

/-! ### compassref11_Out: function 18 -/
def compassref11_Out.l0 : Nat → List Int → Int → Int → Int → Int → List (S98) → Option (Int)
  | 0, _, _, _, _, _, _ => none
  | k + 1, x1, x2, x7, x8, x312000, x312001 => if x8 < (x1.length : Int) then (if 0 ≤ x8 then (if x8 < (x312001.length : Int) then (if ((rd_T98 x312001 x8).f0) = x2 then (if ((rd_T98 x312001 x8).f1) = x2 then (compassref11_Out.l0 k x1 x2 (wrap64 ((wrap64 (x7 + (rd x1 x8))) - (rd x1 x8))) (wrap64 (x8 + 1)) x312000 x312001) else (compassref11_Out.l0 k x1 x2 (wrap64 (x7 + (rd x1 x8))) (wrap64 (x8 + 1)) x312000 x312001)) else (if ((rd_T98 x312001 x8).f1) = x2 then (compassref11_Out.l0 k x1 x2 (wrap64 (x7 - (rd x1 x8))) (wrap64 (x8 + 1)) x312000 x312001) else (compassref11_Out.l0 k x1 x2 x7 (wrap64 (x8 + 1)) x312000 x312001))) else (none)) else (none)) else (some x7)
def compassref11_Out.f (k : Nat) (a0_0 : Int) (l0_1 : List (S98)) (l1 : List Int) (a2 : Int) : Option (Int) := compassref11_Out.l0 k l1 a2 0 0 a0_0 l0_1
set_option maxHeartbeats 8000000 in
set_option maxRecDepth 100000 in
theorem compassref11_Out.calls (k : Nat) (a0_0 : Int) (A0_1 : Option Addr) (c0_1 : Nat) (l0_1 : List (S98)) (A1 : Option Addr) (c1 : Nat) (l1 : List Int) (a2 : Int) (r : Int) (w : World) (hr0_1 : Kd.C k98 w A0_1 l0_1.length l0_1) (hc0_1 : l0_1.length ≤ c0_1) (hr1 : Kd.C (Kd.int .i64) w A1 l1.length l1) (hc1 : l1.length ≤ c1) (h : compassref11_Out.f k a0_0 l0_1 l1 a2 = some r) :
    Calls Try.prog 18 #[.agg #[.int .i64 a0_0, .slice A0_1 l0_1.length c0_1], .slice A1 l1.length c1, .int .i64 a2] w fun e w' => e = .returned (.int .i64 r) ∧ Below w.heap.size w w' := by
 have hu24 := Try.underlying24; have HR0_1 := ak hr0_1; have HC0_1 := ak hc0_1; clear hr0_1 hc0_1; have HR1 := ak hr1; have HC1 := ak hc1; clear hr1 hc1; have HB := ak (Below.refl w.heap.size w); have H : (compassref11_Out.l0 k l1 a2 0 0 a0_0 l0_1) = some r := h; clear h; have H' := ak H; clear H
 go_enter Try.func18, Try.ntmps18
 go_wp2_with (first | ((with_reducible refine gate_dst (N := 3) rfl ?_); refine bxe 3 #[.int .i64 a0_0, .slice A0_1 l0_1.length c0_1] 24 ?_; intro gb311 hg w4 hbox hb; have n_ := a4 (bl hb) hbox (gw w hg) (gw w hg); clear HB; obtain ⟨HB, BK311, GW311, GE311⟩ := n_; clear hb hbox hg))
 go_loopg [7, 8] k (fun kq v7 v8 w' => ∃ (x7_1 : Int) (x8_1 : Int), v7 = .int .i64 x7_1 ∧ v8 = .int .i64 x8_1 ∧ Aside0 (compassref11_Out.l0 kq l1 a2 x7_1 x8_1 a0_0 l0_1 = some r) ∧ Aside0 (kq ≤ k) ∧ Aside0 (w'.heap[gb311]? = some (.cells #[.int .i64 a0_0, (.slice A0_1 l0_1.length c0_1)] 24 (0, 0))) ∧ Aside0 (Below w.heap.size w w'))
 case atStart => exact ⟨(0), (0), sr, sr, H', ⟨Nat.le_refl _⟩, xb BK311, ⟨lb⟩⟩
 clear H'; obtain ⟨x7_1, x8_1, rfl, rfl, HA, HK1, BK311, HB⟩ := hrel
 cases gk with
 | zero => exact absurd HA.out (by simp [compassref11_Out.l0])
 | succ k1 => ?_
 have H := HA.out; clear HA
 simp only [compassref11_Out.l0] at H
 by_cases c5 : x8_1 < (l1.length : Int)
 rotate_left
 ·
  rw [if_neg c5] at H; have c5b0 := decide_eq_false c5; clear c5; obtain rfl := Option.some.inj H
  go_wp2
  go_ret
  exact ⟨er, lb⟩

 rw [if_pos c5] at H; have c5b0 := decide_eq_true c5; clear c5; replace H := if2 H; obtain ⟨c6b0, c7b0, H⟩ := H
 by_cases c8 : ((rd_T98 l0_1 x8_1).f0) = a2
 rotate_left
 ·
  rw [if_neg c8] at H; have c8b := bn2 c8
  by_cases c12 : ((rd_T98 l0_1 x8_1).f1) = a2
  rotate_left
  ·
   rw [if_neg c12] at H; have c12b := bn2 c12; have H' := ak H; clear H; have ⟨_, _, _, _⟩ := cf2 BK311; obtain ⟨p312, q312, ad312, e312, hx312_0, hx312_1, hx312_2, hx312_3⟩ := wq (at_T98 HR0_1.out x8_1); cases e312
   (try replace hx312_0 := hbc HB hx312_0)
   (try replace hx312_1 := hbc HB hx312_1)
   (try replace hx312_2 := hbc HB hx312_2)
   (try replace hx312_3 := hbc HB hx312_3); obtain ⟨p316, q316, ad316, e316, hx316_0, hx316_1, hx316_2, hx316_3⟩ := wq (at_T98 HR0_1.out x8_1)
   obtain rfl : ad312 = ad316 := (by injection e316)
   (try replace hx316_0 := hbc HB hx316_0)
   (try replace hx316_1 := hbc HB hx316_1)
   (try replace hx316_2 := hbc HB hx316_2)
   (try replace hx316_3 := hbc HB hx316_3)
   go_wp2
   go_roundg k1
   case measure => have := HK1.out; omega
   case rel => exact ⟨(x7_1), (wrap64 (x8_1 + 1)), sr, sr, H', ⟨by have := HK1.out; omega⟩, xb BK311, ⟨lb⟩⟩
  rw [if_pos c12] at H; have c12b := be2 c12; clear c12; have H' := ak H; clear H; have ⟨_, _, _, _⟩ := cf2 BK311; obtain ⟨p312, q312, ad312, e312, hx312_0, hx312_1, hx312_2, hx312_3⟩ := wq (at_T98 HR0_1.out x8_1); cases e312
  (try replace hx312_0 := hbc HB hx312_0)
  (try replace hx312_1 := hbc HB hx312_1)
  (try replace hx312_2 := hbc HB hx312_2)
  (try replace hx312_3 := hbc HB hx312_3); obtain ⟨p316, q316, ad316, e316, hx316_0, hx316_1, hx316_2, hx316_3⟩ := wq (at_T98 HR0_1.out x8_1)
  obtain rfl : ad312 = ad316 := (by injection e316)
  (try replace hx316_0 := hbc HB hx316_0)
  (try replace hx316_1 := hbc HB hx316_1)
  (try replace hx316_2 := hbc HB hx316_2)
  (try replace hx316_3 := hbc HB hx316_3); obtain ⟨p317, q317, ad317, e317, hx317_0⟩ := wq (Kd.at_int HR1.out x8_1); cases e317
  (try replace hx317_0 := hbc HB hx317_0)
  go_wp2
  go_roundg k1
  case measure => have := HK1.out; omega
  case rel => exact ⟨(wrap64 (x7_1 - (rd l1 x8_1))), (wrap64 (x8_1 + 1)), sr, sr, H', ⟨by have := HK1.out; omega⟩, xb BK311, ⟨lb⟩⟩
 rw [if_pos c8] at H; have c8b := be2 c8; clear c8
 by_cases c9 : ((rd_T98 l0_1 x8_1).f1) = a2
 rotate_left
 ·
  rw [if_neg c9] at H; have c9b := bn2 c9; have H' := ak H; clear H; have ⟨_, _, _, _⟩ := cf2 BK311; obtain ⟨p312, q312, ad312, e312, hx312_0, hx312_1, hx312_2, hx312_3⟩ := wq (at_T98 HR0_1.out x8_1); cases e312
  (try replace hx312_0 := hbc HB hx312_0)
  (try replace hx312_1 := hbc HB hx312_1)
  (try replace hx312_2 := hbc HB hx312_2)
  (try replace hx312_3 := hbc HB hx312_3); obtain ⟨p313, q313, ad313, e313, hx313_0⟩ := wq (Kd.at_int HR1.out x8_1); cases e313
  (try replace hx313_0 := hbc HB hx313_0); obtain ⟨p314, q314, ad314, e314, hx314_0, hx314_1, hx314_2, hx314_3⟩ := wq (at_T98 HR0_1.out x8_1)
  obtain rfl : ad312 = ad314 := (by injection e314)
  (try replace hx314_0 := hbc HB hx314_0)
  (try replace hx314_1 := hbc HB hx314_1)
  (try replace hx314_2 := hbc HB hx314_2)
  (try replace hx314_3 := hbc HB hx314_3)
  go_wp2
  go_roundg k1
  case measure => have := HK1.out; omega
  case rel => exact ⟨(wrap64 (x7_1 + (rd l1 x8_1))), (wrap64 (x8_1 + 1)), sr, sr, H', ⟨by have := HK1.out; omega⟩, xb BK311, ⟨lb⟩⟩
 rw [if_pos c9] at H; have c9b := be2 c9; clear c9; have H' := ak H; clear H; have ⟨_, _, _, _⟩ := cf2 BK311; obtain ⟨p312, q312, ad312, e312, hx312_0, hx312_1, hx312_2, hx312_3⟩ := wq (at_T98 HR0_1.out x8_1); cases e312
 (try replace hx312_0 := hbc HB hx312_0)
 (try replace hx312_1 := hbc HB hx312_1)
 (try replace hx312_2 := hbc HB hx312_2)
 (try replace hx312_3 := hbc HB hx312_3); obtain ⟨p313, q313, ad313, e313, hx313_0⟩ := wq (Kd.at_int HR1.out x8_1); cases e313
 (try replace hx313_0 := hbc HB hx313_0); obtain ⟨p314, q314, ad314, e314, hx314_0, hx314_1, hx314_2, hx314_3⟩ := wq (at_T98 HR0_1.out x8_1)
 obtain rfl : ad312 = ad314 := (by injection e314)
 (try replace hx314_0 := hbc HB hx314_0)
 (try replace hx314_1 := hbc HB hx314_1)
 (try replace hx314_2 := hbc HB hx314_2)
 (try replace hx314_3 := hbc HB hx314_3); obtain ⟨p315, q315, ad315, e315, hx315_0⟩ := wq (Kd.at_int HR1.out x8_1)
 obtain rfl : ad313 = ad315 := (by injection e315)
 (try replace hx315_0 := hbc HB hx315_0)
 go_wp2
 go_roundg k1
 case measure => have := HK1.out; omega
 case rel => exact ⟨(wrap64 ((wrap64 (x7_1 + (rd l1 x8_1))) - (rd l1 x8_1))), (wrap64 (x8_1 + 1)), sr, sr, H', ⟨by have := HK1.out; omega⟩, xb BK311, ⟨lb⟩⟩
end Go.Proofs.Ytkdoihcjhccliaa.Q
