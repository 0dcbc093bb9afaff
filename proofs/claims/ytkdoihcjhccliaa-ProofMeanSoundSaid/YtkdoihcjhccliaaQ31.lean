import Derived.Test.YtkdoihcjhccliaaQ0
import Derived.Test.YtkdoihcjhccliaaQ25
import Derived.Test.YtkdoihcjhccliaaQ27
namespace Go.Proofs.Ytkdoihcjhccliaa.Q
open Go.RowKit Go.Proofs.YtkdoihcjhccliaaW.PrintWords Go.Proofs.YtkdoihcjhccliaaW.PrintLast Go.Proofs.YtkdoihcjhccliaaW.PrintMore
attribute [local go_sem] max2_int min2_int max_two min_two max_three min_three max_four min_four   -- for this text's walks alone
set_option linter.unusedVariables false
set_option linter.unusedSimpArgs false

/-! ### compassref11_NoPlan: function 25 -/
def compassref11_NoPlan.l0 : Nat → List Int → List Bool → Int → Int → Int → List (S98) → Option (Int)
  | 0, _, _, _, _, _, _ => none
  | k + 1, x1, x2, x8, x9, x397000, x397001 => if x9 < x397000 then (if 0 ≤ x9 then (if x9 < (x2.length : Int) then (if rdOf false x2 x9 = true then (if x9 < (x1.length : Int) then (compassref11_NoPlan.l0 k x1 x2 (wrap64 (x8 + (rd x1 x9))) (wrap64 (x9 + 1)) x397000 x397001) else (none)) else (compassref11_NoPlan.l0 k x1 x2 x8 (wrap64 (x9 + 1)) x397000 x397001)) else (none)) else (none)) else ((compassref11_Cut.f k x397000 x397001 x2).bind fun t400 => (if x8 ≤ t400 then (some 221) else (some 0)))
def compassref11_NoPlan.f (k : Nat) (a0_0 : Int) (l0_1 : List (S98)) (l1 : List Int) (l2 : List Bool) : Option (Int) := (compassref11_Supplies.f k a0_0 l0_1 l1).bind fun t397 => (if t397 = 0 then (if (l2.length : Int) = a0_0 then (compassref11_NoPlan.l0 k l1 l2 0 0 a0_0 l0_1) else (some 221)) else (some t397))
set_option maxHeartbeats 8000000 in
set_option maxRecDepth 100000 in
theorem compassref11_NoPlan.calls (k : Nat) (a0_0 : Int) (A0_1 : Option Addr) (c0_1 : Nat) (l0_1 : List (S98)) (A1 : Option Addr) (c1 : Nat) (l1 : List Int) (A2 : Option Addr) (c2 : Nat) (l2 : List Bool) (r : Int) (w : World) (hr0_1 : Kd.C k98 w A0_1 l0_1.length l0_1) (hc0_1 : l0_1.length ≤ c0_1) (hr1 : Kd.C (Kd.int .i64) w A1 l1.length l1) (hc1 : l1.length ≤ c1) (hr2 : Kd.C Kd.bool w A2 l2.length l2) (hc2 : l2.length ≤ c2) (h : compassref11_NoPlan.f k a0_0 l0_1 l1 l2 = some r) :
    Calls Try.prog 25 #[.agg #[.int .i64 a0_0, .slice A0_1 l0_1.length c0_1], .slice A1 l1.length c1, .slice A2 l2.length c2] w fun e w' => e = .returned (.int .i64 r) ∧ Below w.heap.size w w' := by
 have hu24 := Try.underlying24; have HR0_1 := ak hr0_1; have HC0_1 := ak hc0_1; clear hr0_1 hc0_1; have HR1 := ak hr1; have HC1 := ak hc1; clear hr1 hc1; have HR2 := ak hr2; have HC2 := ak hc2; clear hr2 hc2; have HB := ak (Below.refl w.heap.size w); have H : ((compassref11_Supplies.f k a0_0 l0_1 l1).bind fun t397 => (if t397 = 0 then (if (l2.length : Int) = a0_0 then (compassref11_NoPlan.l0 k l1 l2 0 0 a0_0 l0_1) else (some 221)) else (some t397))) = some r := h; clear h; replace H := Option.bind_eq_some_iff.mp H; obtain ⟨t397, A40, H⟩ := H; have A4 := ak A40; clear A40
 by_cases c5 : t397 = 0
 rotate_left
 ·
  rw [if_neg c5] at H; have c5b := bn2 c5; obtain rfl := Option.some.inj H
  go_enter Try.func25, Try.ntmps25
  go_wp2_with (first | ((with_reducible refine gate_dst (N := 3) rfl ?_); refine bxe 3 #[.int .i64 a0_0, .slice A0_1 l0_1.length c0_1] 24 ?_; intro gb396 hg w29 hbox hb; have n_ := a4 (bl hb) hbox (gw w hg) (gw w hg); clear HB; obtain ⟨HB, BK396, GW396, GE396⟩ := n_; clear hb hbox hg; have ⟨_, _, _, _⟩ := cf2 BK396) | ((with_reducible refine gate_callee (f := 33) rfl ?_); refine gl 12 Try.func33 #[.agg #[.int .i64 a0_0, .slice A0_1 l0_1.length c0_1], .slice A1 l1.length c1] ?_; (with_reducible refine (compassref11_Supplies.calls k a0_0 _ _ l0_1 _ _ l1 t397 _ (Kd.C_below HR0_1.out lb) HC0_1.out (Kd.C_below HR1.out lb) HC1.out A4.out).mono ?_); rintro e w31 ⟨rfl, hb⟩; refine ⟨_, rfl, ?_⟩; have n_ := a2 (bo BK396 hb) (bl hb); clear BK396 HB; obtain ⟨BK396, HB⟩ := n_; clear hb))
  go_ret
  exact ⟨er, lb⟩

 rw [if_pos c5] at H; have c5b := be2 c5; clear c5
 by_cases c6 : (l2.length : Int) = a0_0
 rotate_left
 ·
  rw [if_neg c6] at H; have c6b := bn2 c6; obtain rfl := Option.some.inj H
  go_enter Try.func25, Try.ntmps25
  go_wp2_with (first | ((with_reducible refine gate_dst (N := 3) rfl ?_); refine bxe 3 #[.int .i64 a0_0, .slice A0_1 l0_1.length c0_1] 24 ?_; intro gb396 hg w25 hbox hb; have n_ := a4 (bl hb) hbox (gw w hg) (gw w hg); clear HB; obtain ⟨HB, BK396, GW396, GE396⟩ := n_; clear hb hbox hg; have ⟨_, _, _, _⟩ := cf2 BK396) | ((with_reducible refine gate_callee (f := 33) rfl ?_); refine gl 12 Try.func33 #[.agg #[.int .i64 a0_0, .slice A0_1 l0_1.length c0_1], .slice A1 l1.length c1] ?_; (with_reducible refine (compassref11_Supplies.calls k a0_0 _ _ l0_1 _ _ l1 t397 _ (Kd.C_below HR0_1.out lb) HC0_1.out (Kd.C_below HR1.out lb) HC1.out A4.out).mono ?_); rintro e w27 ⟨rfl, hb⟩; refine ⟨_, rfl, ?_⟩; have n_ := a2 (bo BK396 hb) (bl hb); clear BK396 HB; obtain ⟨BK396, HB⟩ := n_; clear hb; have ⟨_, _, _, _⟩ := cf2 BK396))
  go_ret
  exact ⟨er, lb⟩
 rw [if_pos c6] at H; have c6b := be2 c6; clear c6; have H' := ak H; clear H
 go_enter Try.func25, Try.ntmps25
 go_wp2_with (first | ((with_reducible refine gate_dst (N := 3) rfl ?_); refine bxe 3 #[.int .i64 a0_0, .slice A0_1 l0_1.length c0_1] 24 ?_; intro gb396 hg w7 hbox hb; have n_ := a4 (bl hb) hbox (gw w hg) (gw w hg); clear HB; obtain ⟨HB, BK396, GW396, GE396⟩ := n_; clear hb hbox hg; have ⟨_, _, _, _⟩ := cf2 BK396) | ((with_reducible refine gate_callee (f := 33) rfl ?_); refine gl 12 Try.func33 #[.agg #[.int .i64 a0_0, .slice A0_1 l0_1.length c0_1], .slice A1 l1.length c1] ?_; (with_reducible refine (compassref11_Supplies.calls k a0_0 _ _ l0_1 _ _ l1 t397 _ (Kd.C_below HR0_1.out lb) HC0_1.out (Kd.C_below HR1.out lb) HC1.out A4.out).mono ?_); rintro e w9 ⟨rfl, hb⟩; refine ⟨_, rfl, ?_⟩; have n_ := a2 (bo BK396 hb) (bl hb); clear BK396 HB; obtain ⟨BK396, HB⟩ := n_; clear hb; have ⟨_, _, _, _⟩ := cf2 BK396))
 go_loopg [8, 9] k (fun kq v8 v9 w' => ∃ (x8_1 : Int) (x9_1 : Int), v8 = .int .i64 x8_1 ∧ v9 = .int .i64 x9_1 ∧ Aside0 (compassref11_NoPlan.l0 kq l1 l2 x8_1 x9_1 a0_0 l0_1 = some r) ∧ Aside0 (kq ≤ k) ∧ Aside0 (w'.heap[gb396]? = some (.cells #[.int .i64 a0_0, (.slice A0_1 l0_1.length c0_1)] 24 (0, 0))) ∧ Aside0 (Below w.heap.size w w'))
 case atStart => exact ⟨(0), (0), sr, sr, H', ⟨Nat.le_refl _⟩, xb BK396, ⟨lb⟩⟩
 clear H'; obtain ⟨x8_1, x9_1, rfl, rfl, HA, HK1, BK396, HB⟩ := hrel
 cases gk with
 | zero => exact absurd HA.out (by simp [compassref11_NoPlan.l0])
 | succ k1 => ?_
 have H := HA.out; clear HA
 simp only [compassref11_NoPlan.l0] at H
 by_cases c11 : x9_1 < a0_0
 rotate_left
 ·
  rw [if_neg c11] at H; have c11b0 := decide_eq_false c11; clear c11; replace H := Option.bind_eq_some_iff.mp H; obtain ⟨t400, A190, H⟩ := H; have A19 := ak A190; clear A190
  by_cases c20 : x8_1 ≤ t400
  rotate_left
  ·
   rw [if_neg c20] at H; have c20b0 := decide_eq_false c20; clear c20; obtain rfl := Option.some.inj H; have ⟨_, _, _, _⟩ := cf2 BK396
   go_wp2_with (first | ((with_reducible refine gate_callee (f := 54) rfl ?_); refine gl 40 Try.func54 #[.agg #[.int .i64 a0_0, .slice A0_1 l0_1.length c0_1], .slice A2 l2.length c2] ?_; (with_reducible refine (compassref11_Cut.calls k1 a0_0 _ _ l0_1 _ _ l2 t400 _ (Kd.C_below HR0_1.out lb) HC0_1.out (Kd.C_below HR2.out lb) HC2.out A19.out).mono ?_); rintro e w24 ⟨rfl, hb⟩; refine ⟨_, rfl, ?_⟩; have n_ := a2 (bo BK396 hb) (bl hb); clear BK396 HB; obtain ⟨BK396, HB⟩ := n_; clear hb))
   go_ret
   exact ⟨er, lb⟩
  rw [if_pos c20] at H; have c20b0 := decide_eq_true c20; clear c20; obtain rfl := Option.some.inj H; have ⟨_, _, _, _⟩ := cf2 BK396
  go_wp2_with (first | ((with_reducible refine gate_callee (f := 54) rfl ?_); refine gl 40 Try.func54 #[.agg #[.int .i64 a0_0, .slice A0_1 l0_1.length c0_1], .slice A2 l2.length c2] ?_; (with_reducible refine (compassref11_Cut.calls k1 a0_0 _ _ l0_1 _ _ l2 t400 _ (Kd.C_below HR0_1.out lb) HC0_1.out (Kd.C_below HR2.out lb) HC2.out A19.out).mono ?_); rintro e w22 ⟨rfl, hb⟩; refine ⟨_, rfl, ?_⟩; have n_ := a2 (bo BK396 hb) (bl hb); clear BK396 HB; obtain ⟨BK396, HB⟩ := n_; clear hb))
  go_ret
  exact ⟨er, lb⟩
 rw [if_pos c11] at H; have c11b0 := decide_eq_true c11; clear c11; replace H := if2 H; obtain ⟨c12b0, c13b0, H⟩ := H; obtain ⟨bq14, hbq14⟩ : ∃ b_ : Bool, b_ = (rdOf false l2 x9_1) := ⟨_, rfl⟩; replace H : (if bq14 = true then (if x9_1 < (l1.length : Int) then (compassref11_NoPlan.l0 k1 l1 l2 (wrap64 (x8_1 + (rd l1 x9_1))) (wrap64 (x9_1 + 1)) a0_0 l0_1) else (none)) else (compassref11_NoPlan.l0 k1 l1 l2 x8_1 (wrap64 (x9_1 + 1)) a0_0 l0_1)) = some r := by rw [← hbq14] at H; exact H
 have Nbq14 := ak hbq14; clear hbq14
 by_cases c15 : bq14 = true
 rotate_left
 ·
  replace c15 := Bool.eq_false_iff.mpr c15; subst c15
  have H1 : (compassref11_NoPlan.l0 k1 l1 l2 x8_1 (wrap64 (x9_1 + 1)) a0_0 l0_1) = some r := by rw [if_neg (show ¬ (false = true) by decide)] at H; exact H
  clear H; have H := H1; clear H1; have H' := ak H; clear H; have ⟨_, _, _, _⟩ := cf2 BK396; obtain ⟨p398, q398, ad398, e398, hx398_0⟩ := wq (Kd.at_bool HR2.out x9_1)
  (try rw [← Nbq14.out] at hx398_0)
  cases e398
  (try replace hx398_0 := hbc HB hx398_0)
  go_wp2
  go_roundg k1
  case measure => have := HK1.out; omega
  case rel => exact ⟨(x8_1), (wrap64 (x9_1 + 1)), sr, sr, H', ⟨by have := HK1.out; omega⟩, xb BK396, ⟨lb⟩⟩
 subst c15
 replace H := ip H; replace H := ifd H; obtain ⟨c16b0, H⟩ := H; have H' := ak H; clear H; have ⟨_, _, _, _⟩ := cf2 BK396; obtain ⟨p398, q398, ad398, e398, hx398_0⟩ := wq (Kd.at_bool HR2.out x9_1)
 (try rw [← Nbq14.out] at hx398_0)
 cases e398
 (try replace hx398_0 := hbc HB hx398_0); obtain ⟨p399, q399, ad399, e399, hx399_0⟩ := wq (Kd.at_int HR1.out x9_1); cases e399
 (try replace hx399_0 := hbc HB hx399_0)
 go_wp2
 go_roundg k1
 case measure => have := HK1.out; omega
 case rel => exact ⟨(wrap64 (x8_1 + (rd l1 x9_1))), (wrap64 (x9_1 + 1)), sr, sr, H', ⟨by have := HK1.out; omega⟩, xb BK396, ⟨lb⟩⟩
end Go.Proofs.Ytkdoihcjhccliaa.Q
