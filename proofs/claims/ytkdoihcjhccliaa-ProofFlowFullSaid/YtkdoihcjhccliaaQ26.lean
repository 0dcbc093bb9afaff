import Derived.Test.YtkdoihcjhccliaaQ0
import Derived.Test.YtkdoihcjhccliaaQ9
import Derived.Test.YtkdoihcjhccliaaQ19
import Derived.Test.YtkdoihcjhccliaaQ22
import Derived.Test.YtkdoihcjhccliaaQ24
import Derived.Test.YtkdoihcjhccliaaQ25
namespace Go.Proofs.Ytkdoihcjhccliaa.Q
open Go.RowKit Go.Proofs.YtkdoihcjhccliaaW.PrintWords Go.Proofs.YtkdoihcjhccliaaW.PrintLast Go.Proofs.YtkdoihcjhccliaaW.PrintMore
attribute [local go_sem] max2_int min2_int max_two min_two max_three min_three max_four min_four   -- for this text's walks alone
set_option linter.unusedVariables false
set_option linter.unusedSimpArgs false

/-! ### compassref11_Max: function 17 -/
def compassref11_Max.j0 : Nat → Int → Int → List Int → List Bool → Bool → Int → List (S98) → Option (Int × Int)
  | 0, _, _, _, _, _, _, _ => none
  | k + 1, x1, x2, x3, x4, x38, x348000, x348001 => if x38 = true then (some (0, 221)) else ((compassref11_Cut.f k x348000 x348001 x4).bind fun t351 => ((compassref11_Flows.f k x348000 x348001 x1 x2 x3 t351).bind fun t352 => (if t352 = true then (some (t351, 0)) else (some (0, 221)))))
def compassref11_Max.f (k : Nat) (a0_0 : Int) (l0_1 : List (S98)) (a1 : Int) (a2 : Int) (l3 : List Int) (l4 : List Bool) : Option (Int × Int) := (compassref11_Ends.f k a0_0 l0_1 a1 a2).bind fun t348 => (if t348 = 0 then (if (l4.length : Int) = a0_0 then (if 0 ≤ a1 then (if a1 < (l4.length : Int) then (if rdOf false l4 a1 = true then (if 0 ≤ a2 then (if a2 < (l4.length : Int) then (compassref11_Max.j0 k a1 a2 l3 l4 (rdOf false l4 a2) a0_0 l0_1) else (none)) else (none)) else (compassref11_Max.j0 k a1 a2 l3 l4 true a0_0 l0_1)) else (none)) else (none)) else (compassref11_Max.j0 k a1 a2 l3 l4 true a0_0 l0_1)) else (some (0, t348)))
set_option maxHeartbeats 8000000 in
set_option maxRecDepth 100000 in
theorem compassref11_Max.calls (k : Nat) (a0_0 : Int) (A0_1 : Option Addr) (c0_1 : Nat) (l0_1 : List (S98)) (a1 : Int) (a2 : Int) (A3 : Option Addr) (c3 : Nat) (l3 : List Int) (A4 : Option Addr) (c4 : Nat) (l4 : List Bool) (r1 : Int) (r2 : Int) (w : World) (hr0_1 : Kd.C k98 w A0_1 l0_1.length l0_1) (hc0_1 : l0_1.length ≤ c0_1) (hr3 : Kd.C (Kd.int .i64) w A3 l3.length l3) (hc3 : l3.length ≤ c3) (hr4 : Kd.C Kd.bool w A4 l4.length l4) (hc4 : l4.length ≤ c4) (h : compassref11_Max.f k a0_0 l0_1 a1 a2 l3 l4 = some (r1, r2)) :
    Calls Try.prog 17 #[.agg #[.int .i64 a0_0, .slice A0_1 l0_1.length c0_1], .int .i64 a1, .int .i64 a2, .slice A3 l3.length c3, .slice A4 l4.length c4] w fun e w' => e = .returned (.tuple #[.int .i64 r1, .int .i64 r2]) ∧ Below w.heap.size w w' := by
 have hu24 := Try.underlying24; have HR0_1 := ak hr0_1; have HC0_1 := ak hc0_1; clear hr0_1 hc0_1; have HR3 := ak hr3; have HC3 := ak hc3; clear hr3 hc3; have HR4 := ak hr4; have HC4 := ak hc4; clear hr4 hc4; have HB := ak (Below.refl w.heap.size w); have H : ((compassref11_Ends.f k a0_0 l0_1 a1 a2).bind fun t348 => (if t348 = 0 then (if (l4.length : Int) = a0_0 then (if 0 ≤ a1 then (if a1 < (l4.length : Int) then (if rdOf false l4 a1 = true then (if 0 ≤ a2 then (if a2 < (l4.length : Int) then (compassref11_Max.j0 k a1 a2 l3 l4 (rdOf false l4 a2) a0_0 l0_1) else (none)) else (none)) else (compassref11_Max.j0 k a1 a2 l3 l4 true a0_0 l0_1)) else (none)) else (none)) else (compassref11_Max.j0 k a1 a2 l3 l4 true a0_0 l0_1)) else (some (0, t348)))) = some (r1, r2) := h; clear h; replace H := Option.bind_eq_some_iff.mp H; obtain ⟨t348, A60, H⟩ := H; have A6 := ak A60; clear A60
 by_cases c7 : t348 = 0
 rotate_left
 ·
  rw [if_neg c7] at H; have c7b := bn2 c7
  simp only [Option.some.injEq, Prod.mk.injEq] at H
  obtain ⟨rfl, rfl⟩ := H
  go_enter Try.func17, Try.ntmps17
  go_wp2_with (first | ((with_reducible refine gate_dst (N := 5) rfl ?_); refine bxe 5 #[.int .i64 a0_0, .slice A0_1 l0_1.length c0_1] 24 ?_; intro gb347 hg w34 hbox hb; have n0_ := ak (bl hb); have n1_ := ak (hbox); have n2_ := ak (gw w hg); have n3_ := ak (gw w hg); clear HB; have HB := n0_; have BK347 := n1_; have GW347 := n2_; have GE347 := n3_; clear n0_ n1_ n2_ n3_; clear hb hbox hg; have ⟨_, _, _, _⟩ := cf2 BK347) | ((with_reducible refine gate_callee (f := 20) rfl ?_); refine gl 17 Try.func20 #[.agg #[.int .i64 a0_0, .slice A0_1 l0_1.length c0_1], .int .i64 a1, .int .i64 a2] ?_; (with_reducible refine (compassref11_Ends.calls k a0_0 _ _ l0_1 a1 a2 t348 _ (Kd.C_below HR0_1.out lb) HC0_1.out A6.out).mono ?_); rintro e w36 ⟨rfl, hb⟩; refine ⟨_, rfl, ?_⟩; have n0_ := ak (bo BK347 hb); have n1_ := ak (bl hb); clear BK347; clear HB; have BK347 := n0_; have HB := n1_; clear n0_ n1_; clear hb))
  go_ret2
  exact ⟨er, lb⟩

 rw [if_pos c7] at H; have c7b := be2 c7; clear c7; have HC8 := ak H; clear H
 go_enter Try.func17, Try.ntmps17
 go_upto_region 4 with (first | ((with_reducible refine gate_dst (N := 5) rfl ?_); refine bxe 5 #[.int .i64 a0_0, .slice A0_1 l0_1.length c0_1] 24 ?_; intro gb347 hg w9 hbox hb; have n0_ := ak (bl hb); have n1_ := ak (hbox); have n2_ := ak (gw w hg); have n3_ := ak (gw w hg); clear HB; have HB := n0_; have BK347 := n1_; have GW347 := n2_; have GE347 := n3_; clear n0_ n1_ n2_ n3_; clear hb hbox hg; have ⟨_, _, _, _⟩ := cf2 BK347) | ((with_reducible refine gate_callee (f := 20) rfl ?_); refine gl 17 Try.func20 #[.agg #[.int .i64 a0_0, .slice A0_1 l0_1.length c0_1], .int .i64 a1, .int .i64 a2] ?_; (with_reducible refine (compassref11_Ends.calls k a0_0 _ _ l0_1 a1 a2 t348 _ (Kd.C_below HR0_1.out lb) HC0_1.out A6.out).mono ?_); rintro e w11 ⟨rfl, hb⟩; refine ⟨_, rfl, ?_⟩; have n0_ := ak (bo BK347 hb); have n1_ := ak (bl hb); clear BK347; clear HB; have BK347 := n0_; have HB := n1_; clear n0_ n1_; clear hb))
 (try simp only [Act.put, sA, sZ, sS])
 go_cut [38] (fun v38 wc => ∃ (kq : Nat) (x38_7 : Bool), v38 = .bool x38_7 ∧ Aside0 (compassref11_Max.j0 kq a1 a2 l3 l4 x38_7 a0_0 l0_1 = some (r1, r2)) ∧ Aside0 (kq ≤ k) ∧ Aside0 (wc.heap[gb347]? = some (.cells #[.int .i64 a0_0, (.slice A0_1 l0_1.length c0_1)] 24 (0, 0))) ∧ Aside0 (Below w.heap.size w wc))
 case first =>
  have H := HC8.out; clear HC8
  by_cases c12 : (l4.length : Int) = a0_0
  rotate_left
  ·
   rw [if_neg c12] at H; have c12b := bn2 c12
   (first | rw [c12b0] | (simp only [i64_w, i32_w]; rw [c12b0]) | skip)
   have H' := ak H; clear H; have ⟨_, _, _, _⟩ := cf2 BK347
   go_wp2
   go_meet
   case rel => exact ⟨_, (true), sr, H', ⟨by first | omega | exact Nat.le_refl _⟩, xb BK347, ⟨lb⟩⟩
  rw [if_pos c12] at H; have c12b := be2 c12; clear c12
  (first | rw [c12b0] | (simp only [i64_w, i32_w]; rw [c12b0]) | skip)
  replace H := if2 H; obtain ⟨c13b0, c14b0, H⟩ := H; obtain ⟨bq15, hbq15⟩ : ∃ b_ : Bool, b_ = (rdOf false l4 a1) := ⟨_, rfl⟩; replace H : (if bq15 = true then (if 0 ≤ a2 then (if a2 < (l4.length : Int) then (compassref11_Max.j0 k a1 a2 l3 l4 (rdOf false l4 a2) a0_0 l0_1) else (none)) else (none)) else (compassref11_Max.j0 k a1 a2 l3 l4 true a0_0 l0_1)) = some (r1, r2) := by rw [← hbq15] at H; exact H
  have Nbq15 := ak hbq15; clear hbq15
  by_cases c16 : bq15 = true
  rotate_left
  ·
   replace c16 := Bool.eq_false_iff.mpr c16; subst c16
   have H1 : (compassref11_Max.j0 k a1 a2 l3 l4 true a0_0 l0_1) = some (r1, r2) := by rw [if_neg (show ¬ (false = true) by decide)] at H; exact H
   clear H; have H := H1; clear H1; have H' := ak H; clear H; have ⟨_, _, _, _⟩ := cf2 BK347; obtain ⟨p349, q349, ad349, e349, hx349_0⟩ := wq (Kd.at_bool HR4.out a1)
   (try rw [← Nbq15.out] at hx349_0)
   cases e349
   (try replace hx349_0 := hbc HB hx349_0)
   go_wp2
   go_meet
   case rel => exact ⟨_, (true), sr, H', ⟨by first | omega | exact Nat.le_refl _⟩, xb BK347, ⟨lb⟩⟩
  subst c16
  replace H := ip H; replace H := if2 H; obtain ⟨c17b0, c18b0, H⟩ := H; have H' := ak H; clear H; have ⟨_, _, _, _⟩ := cf2 BK347; obtain ⟨p349, q349, ad349, e349, hx349_0⟩ := wq (Kd.at_bool HR4.out a1)
  (try rw [← Nbq15.out] at hx349_0)
  cases e349
  (try replace hx349_0 := hbc HB hx349_0); obtain ⟨p350, q350, ad350, e350, hx350_0⟩ := wq (Kd.at_bool HR4.out a2)
  (try rw [← Nbq15.out] at hx350_0)
  obtain rfl : ad349 = ad350 := (by injection e350)
  (try replace hx350_0 := hbc HB hx350_0)
  go_wp2
  go_meet
  case rel => exact ⟨_, (rdOf false l4 a2), sr, H', ⟨by first | omega | exact Nat.le_refl _⟩, xb BK347, ⟨lb⟩⟩
 case rest =>
  clear HC8; obtain ⟨kq, x38_7, rfl, HA, HJ7, BK347, HB⟩ := hcut
  cases kq with
  | zero => exact absurd HA.out (by simp [compassref11_Max.j0])
  | succ kj7 =>
   have H := HA.out; clear HA
   simp only [compassref11_Max.j0] at H
   by_cases c22 : x38_7 = true
   ·
    subst c22
    replace H := ip H
    simp only [Option.some.injEq, Prod.mk.injEq] at H
    obtain ⟨rfl, rfl⟩ := H
    go_wp2
    go_ret2
    exact ⟨er, lb⟩
   replace c22 := Bool.eq_false_iff.mpr c22; subst c22
   have H1 : ((compassref11_Cut.f kj7 a0_0 l0_1 l4).bind fun t351 => ((compassref11_Flows.f kj7 a0_0 l0_1 a1 a2 l3 t351).bind fun t352 => (if t352 = true then (some (t351, 0)) else (some (0, 221))))) = some (r1, r2) := by rw [if_neg (show ¬ (false = true) by decide)] at H; exact H
   clear H; have H := H1; clear H1; replace H := Option.bind_eq_some_iff.mp H; obtain ⟨t351, A230, H⟩ := H; have A23 := ak A230; clear A230; replace H := Option.bind_eq_some_iff.mp H; obtain ⟨t352, A240, H⟩ := H; have A24 := ak A240; clear A240
   by_cases c25 : t352 = true
   ·
    subst c25
    replace H := ip H
    simp only [Option.some.injEq, Prod.mk.injEq] at H
    obtain ⟨rfl, rfl⟩ := H; have ⟨_, _, _, _⟩ := cf2 BK347
    go_wp2_with (first | ((with_reducible refine gate_callee (f := 54) rfl ?_); refine gl 41 Try.func54 #[.agg #[.int .i64 a0_0, .slice A0_1 l0_1.length c0_1], .slice A4 l4.length c4] ?_; (with_reducible refine (compassref11_Cut.calls kj7 a0_0 _ _ l0_1 _ _ l4 t351 _ (Kd.C_below HR0_1.out lb) HC0_1.out (Kd.C_below HR4.out lb) HC4.out A23.out).mono ?_); rintro e w27 ⟨rfl, hb⟩; refine ⟨_, rfl, ?_⟩; have n0_ := ak (bo BK347 hb); have n1_ := ak (bl hb); clear BK347; clear HB; have BK347 := n0_; have HB := n1_; clear n0_ n1_; clear hb; have ⟨_, _, _, _⟩ := cf2 BK347) | ((with_reducible refine gate_callee (f := 19) rfl ?_); refine gl 47 Try.func19 #[.agg #[.int .i64 a0_0, .slice A0_1 l0_1.length c0_1], .int .i64 a1, .int .i64 a2, .slice A3 l3.length c3, .int .i64 t351] ?_; (with_reducible refine (compassref11_Flows.calls kj7 a0_0 _ _ l0_1 a1 a2 _ _ l3 t351 true _ (Kd.C_below HR0_1.out lb) HC0_1.out (Kd.C_below HR3.out lb) HC3.out A24.out).mono ?_); rintro e w29 ⟨rfl, hb⟩; refine ⟨_, rfl, ?_⟩; have n0_ := ak (bo BK347 hb); have n1_ := ak (bl hb); clear BK347; clear HB; have BK347 := n0_; have HB := n1_; clear n0_ n1_; clear hb))
    go_ret2
    exact ⟨er, lb⟩
   replace c25 := Bool.eq_false_iff.mpr c25; subst c25
   have H1 : (some (0, 221)) = some (r1, r2) := by rw [if_neg (show ¬ (false = true) by decide)] at H; exact H
   clear H; have H := H1; clear H1
   simp only [Option.some.injEq, Prod.mk.injEq] at H
   obtain ⟨rfl, rfl⟩ := H; have ⟨_, _, _, _⟩ := cf2 BK347
   go_wp2_with (first | ((with_reducible refine gate_callee (f := 54) rfl ?_); refine gl 41 Try.func54 #[.agg #[.int .i64 a0_0, .slice A0_1 l0_1.length c0_1], .slice A4 l4.length c4] ?_; (with_reducible refine (compassref11_Cut.calls kj7 a0_0 _ _ l0_1 _ _ l4 t351 _ (Kd.C_below HR0_1.out lb) HC0_1.out (Kd.C_below HR4.out lb) HC4.out A23.out).mono ?_); rintro e w31 ⟨rfl, hb⟩; refine ⟨_, rfl, ?_⟩; have n0_ := ak (bo BK347 hb); have n1_ := ak (bl hb); clear BK347; clear HB; have BK347 := n0_; have HB := n1_; clear n0_ n1_; clear hb; have ⟨_, _, _, _⟩ := cf2 BK347) | ((with_reducible refine gate_callee (f := 19) rfl ?_); refine gl 47 Try.func19 #[.agg #[.int .i64 a0_0, .slice A0_1 l0_1.length c0_1], .int .i64 a1, .int .i64 a2, .slice A3 l3.length c3, .int .i64 t351] ?_; (with_reducible refine (compassref11_Flows.calls kj7 a0_0 _ _ l0_1 a1 a2 _ _ l3 t351 false _ (Kd.C_below HR0_1.out lb) HC0_1.out (Kd.C_below HR3.out lb) HC3.out A24.out).mono ?_); rintro e w33 ⟨rfl, hb⟩; refine ⟨_, rfl, ?_⟩; have n0_ := ak (bo BK347 hb); have n1_ := ak (bl hb); clear BK347; clear HB; have BK347 := n0_; have HB := n1_; clear n0_ n1_; clear hb))
   go_ret2
   exact ⟨er, lb⟩
/-! ### compasslaw11_ProofFlows: function 3 -/
def compasslaw11_ProofFlows.f (k : Nat) (a0_0 : Int) (l0_1 : List (S98)) (a1_0 : Int) (a1_1 : Int) (l1_2 : List Int) (l1_3 : List Bool) : Option (Bool) := (compasslaw11_awake.f k).bind fun t355 => (if t355 = true then ((proof_Max.f k a0_0 l0_1 a1_0 a1_1 l1_2 l1_3).bind fun bt356 => ((compassref11_Max.f k a0_0 l0_1 a1_0 a1_1 l1_2 l1_3).bind fun bt358 => (if bt356.1 = bt358.1 then (some (bt356.2 == bt358.2)) else (some false)))) else (some false))
set_option maxHeartbeats 8000000 in
set_option maxRecDepth 100000 in
theorem compasslaw11_ProofFlows.calls (k : Nat) (a0_0 : Int) (A0_1 : Option Addr) (c0_1 : Nat) (l0_1 : List (S98)) (a1_0 : Int) (a1_1 : Int) (A1_2 : Option Addr) (c1_2 : Nat) (l1_2 : List Int) (A1_3 : Option Addr) (c1_3 : Nat) (l1_3 : List Bool) (r : Bool) (w : World) (hr0_1 : Kd.C k98 w A0_1 l0_1.length l0_1) (hc0_1 : l0_1.length ≤ c0_1) (hr1_2 : Kd.C (Kd.int .i64) w A1_2 l1_2.length l1_2) (hc1_2 : l1_2.length ≤ c1_2) (hr1_3 : Kd.C Kd.bool w A1_3 l1_3.length l1_3) (hc1_3 : l1_3.length ≤ c1_3) (hr_ : r = true) (h : compasslaw11_ProofFlows.f k a0_0 l0_1 a1_0 a1_1 l1_2 l1_3 = some r) :
    Calls Try.prog 3 #[.agg #[.int .i64 a0_0, .slice A0_1 l0_1.length c0_1], .agg #[.int .i64 a1_0, .int .i64 a1_1, .slice A1_2 l1_2.length c1_2, .slice A1_3 l1_3.length c1_3]] w fun e w' => e = .returned (.bool r) ∧ Below w.heap.size w w' := by
 have hu24 := Try.underlying24; have hu28 := Try.underlying28; have HR0_1 := ak hr0_1; have HC0_1 := ak hc0_1; clear hr0_1 hc0_1; have HR1_2 := ak hr1_2; have HC1_2 := ak hc1_2; clear hr1_2 hc1_2; have HR1_3 := ak hr1_3; have HC1_3 := ak hc1_3; clear hr1_3 hc1_3; have HB := ak (Below.refl w.heap.size w); have HR_ := ak hr_; clear hr_; have H : ((compasslaw11_awake.f k).bind fun t355 => (if t355 = true then ((proof_Max.f k a0_0 l0_1 a1_0 a1_1 l1_2 l1_3).bind fun bt356 => ((compassref11_Max.f k a0_0 l0_1 a1_0 a1_1 l1_2 l1_3).bind fun bt358 => (if bt356.1 = bt358.1 then (some (bt356.2 == bt358.2)) else (some false)))) else (some false))) = some r := h; clear h; replace H := Option.bind_eq_some_iff.mp H; obtain ⟨t355, A30, H⟩ := H; have A3 := ak A30; clear A30
 by_cases c4 : t355 = true
 rotate_left
 ·
  replace c4 := Bool.eq_false_iff.mpr c4; subst c4
  have H1 : (some false) = some r := by rw [if_neg (show ¬ (false = true) by decide)] at H; exact H
  clear H; have H := H1; clear H1
  exact absurd ((Option.some.inj H).trans HR_.out) (by decide)

 subst c4
 replace H := ip H; replace H := Option.bind_eq_some_iff.mp H; obtain ⟨⟨t356, t357⟩, A50, H⟩ := H; dsimp only at H; have A5 := ak A50; clear A50; replace H := Option.bind_eq_some_iff.mp H; obtain ⟨⟨t358, t359⟩, A60, H⟩ := H; dsimp only at H; have A6 := ak A60; clear A60
 by_cases c7 : t356 = t358
 rotate_left
 ·
  rw [if_neg c7] at H; have c7b := bn2 c7
  exact absurd ((Option.some.inj H).trans HR_.out) (by decide)
 rw [if_pos c7] at H; have c7b := be2 c7; clear c7; obtain rfl := Option.some.inj H
 go_enter Try.func3, Try.ntmps3
 go_wp2_with (first | ((with_reducible refine gate_dst (N := 2) rfl ?_); refine bxe 2 #[.int .i64 a0_0, .slice A0_1 l0_1.length c0_1] 24 ?_; intro gb353 hg w8 hbox hb; have n0_ := ak (bl hb); have n1_ := ak (hbox); have n2_ := ak (gw w hg); have n3_ := ak (gw w hg); clear HB; have HB := n0_; have BK353 := n1_; have GW353 := n2_; have GE353 := n3_; clear n0_ n1_ n2_ n3_; clear hb hbox hg) | ((with_reducible refine gate_dst (N := 3) rfl ?_); refine bxe 3 #[.int .i64 a1_0, .int .i64 a1_1, .slice A1_2 l1_2.length c1_2, .slice A1_3 l1_3.length c1_3] 28 ?_; intro gb354 hg w9 hbox hb; have n0_ := ak (bo BK353 hb); have n1_ := ak (bl hb); have n2_ := ak (hbox); have n3_ := ak (gw w hg); have n4_ := ak (gw w hg); have n5_ := ak (nl hg BK353); have n6_ := ak (nr hg BK353); clear BK353; clear HB; have BK353 := n0_; have HB := n1_; have BK354 := n2_; have GW354 := n3_; have GE354 := n4_; have NB353_354 := n5_; have NB354_353 := n6_; clear n0_ n1_ n2_ n3_ n4_ n5_ n6_; clear hb hbox hg) | ((with_reducible refine gate_callee (f := 15) rfl ?_); refine gl 9 Try.func15 #[] ?_; (with_reducible refine (compasslaw11_awake.calls k true _ rfl A3.out).mono ?_); rintro e w10 ⟨rfl, hb⟩; refine ⟨_, rfl, ?_⟩; have n0_ := ak (bo BK353 hb); have n1_ := ak (bo BK354 hb); have n2_ := ak (bl hb); clear BK353; clear BK354; clear HB; have BK353 := n0_; have BK354 := n1_; have HB := n2_; clear n0_ n1_ n2_; clear hb; have ⟨_, _⟩ := nn NB353_354; have ⟨_, _, _, _⟩ := cf2 BK353; have ⟨_, _, _, _, _, _, _, _⟩ := cf4 BK354) | ((with_reducible refine gate_callee (f := 16) rfl ?_); refine gl 14 Try.func16 #[.agg #[.int .i64 a0_0, .slice A0_1 l0_1.length c0_1], .agg #[.int .i64 a1_0, .int .i64 a1_1, .slice A1_2 l1_2.length c1_2, .slice A1_3 l1_3.length c1_3]] ?_; (with_reducible refine (proof_Max.calls k a0_0 _ _ l0_1 a1_0 a1_1 _ _ l1_2 _ _ l1_3 t356 t357 _ (Kd.C_below HR0_1.out lb) HC0_1.out (Kd.C_below HR1_2.out lb) HC1_2.out (Kd.C_below HR1_3.out lb) HC1_3.out A5.out).mono ?_); rintro e w14 ⟨rfl, hb⟩; refine ⟨_, rfl, ?_⟩; have n0_ := ak (bo BK353 hb); have n1_ := ak (bo BK354 hb); have n2_ := ak (bl hb); clear BK353; clear BK354; clear HB; have BK353 := n0_; have BK354 := n1_; have HB := n2_; clear n0_ n1_ n2_; clear hb; have ⟨_, _, _, _⟩ := cf2 BK353; have ⟨_, _, _, _, _, _, _, _⟩ := cf4 BK354) | ((with_reducible refine gate_callee (f := 17) rfl ?_); refine gl 27 Try.func17 #[.agg #[.int .i64 a0_0, .slice A0_1 l0_1.length c0_1], .int .i64 a1_0, .int .i64 a1_1, .slice A1_2 l1_2.length c1_2, .slice A1_3 l1_3.length c1_3] ?_; (with_reducible refine (compassref11_Max.calls k a0_0 _ _ l0_1 a1_0 a1_1 _ _ l1_2 _ _ l1_3 t358 t359 _ (Kd.C_below HR0_1.out lb) HC0_1.out (Kd.C_below HR1_2.out lb) HC1_2.out (Kd.C_below HR1_3.out lb) HC1_3.out A6.out).mono ?_); rintro e w17 ⟨rfl, hb⟩; refine ⟨_, rfl, ?_⟩; have n0_ := ak (bo BK353 hb); have n1_ := ak (bo BK354 hb); have n2_ := ak (bl hb); clear BK353; clear BK354; clear HB; have BK353 := n0_; have BK354 := n1_; have HB := n2_; clear n0_ n1_ n2_; clear hb))
 go_ret
 exact ⟨er, lb⟩
end Go.Proofs.Ytkdoihcjhccliaa.Q
