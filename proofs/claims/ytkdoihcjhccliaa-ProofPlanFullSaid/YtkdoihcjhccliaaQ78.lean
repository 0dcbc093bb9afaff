import Derived.Test.YtkdoihcjhccliaaV4
import Derived.Test.YtkdoihcjhccliaaQ0
import Derived.Test.YtkdoihcjhccliaaQ3
import Derived.Test.YtkdoihcjhccliaaQ13
import Derived.Test.YtkdoihcjhccliaaQ19
import Derived.Test.YtkdoihcjhccliaaQ27
import Derived.Test.YtkdoihcjhccliaaQ30
import Derived.Test.YtkdoihcjhccliaaQ77
namespace Go.Proofs.Ytkdoihcjhccliaa.Q
open Go.RowKit Go.Proofs.YtkdoihcjhccliaaW.PrintWords Go.Proofs.YtkdoihcjhccliaaW.PrintLast Go.Proofs.YtkdoihcjhccliaaW.PrintMore
attribute [local go_sem] max2_int min2_int max_two min_two max_three min_three max_four min_four   -- for this text's walks alone
set_option linter.unusedVariables false
set_option linter.unusedSimpArgs false

/-! ### compasslaw11_ProofPlanFull: function 10 -/
def compasslaw11_ProofPlanFull.j0 : Nat → List Int → Bool → Int → List (S98) → Option (Bool)
  | 0, _, _, _, _ => none
  | k + 1, x1, x27, x657000, x657001 => if x27 = true then (some true) else ((compassref11_MinCost.f k x657000 x657001 x1).bind fun bt659 => (if bt659.2.2.2 = true then ((proof_Cheapest.f k x657000 x657001 x1 bt659.1 bt659.2.1).bind fun bt669 => (if bt669.2 = 0 then ((compassref11_Total.f k x657000 x657001 bt659.1).bind fun t671 => (some (bt669.1 == t671))) else (some false))) else ((proof_NoPlan.f k x657000 x657001 x1 bt659.2.2.1).bind fun t672 => (some (t672 == 0)))))
def compasslaw11_ProofPlanFull.f (k : Nat) (a0_0 : Int) (l0_1 : List (S98)) (l1 : List Int) : Option (Bool) := (compasslaw11_awake.f k).bind fun t657 => (if t657 = true then (if a0_0 > 64 then (compasslaw11_ProofPlanFull.j0 k l1 true a0_0 l0_1) else (if (l0_1.length : Int) > 256 then (compasslaw11_ProofPlanFull.j0 k l1 true a0_0 l0_1) else ((compassref11_Supplies.f k a0_0 l0_1 l1).bind fun t658 => (compasslaw11_ProofPlanFull.j0 k l1 (t658 != 0) a0_0 l0_1)))) else (some false))
set_option maxHeartbeats 8000000 in
set_option maxRecDepth 100000 in
theorem compasslaw11_ProofPlanFull.calls (k : Nat) (a0_0 : Int) (A0_1 : Option Addr) (c0_1 : Nat) (l0_1 : List (S98)) (A1 : Option Addr) (c1 : Nat) (l1 : List Int) (r : Bool) (w : World) (hr0_1 : Kd.C k98 w A0_1 l0_1.length l0_1) (hc0_1 : l0_1.length ≤ c0_1) (hr1 : Kd.C (Kd.int .i64) w A1 l1.length l1) (hc1 : l1.length ≤ c1) (hr_ : r = true) (h : compasslaw11_ProofPlanFull.f k a0_0 l0_1 l1 = some r) :
    Calls Try.prog 10 #[.agg #[.int .i64 a0_0, .slice A0_1 l0_1.length c0_1], .slice A1 l1.length c1] w fun e w' => e = .returned (.bool r) ∧ Below w.heap.size w w' := by
 have hu24 := Try.underlying24; have hu44 := Try.underlying44; have HR0_1 := ak hr0_1; have HC0_1 := ak hc0_1; clear hr0_1 hc0_1; have HR1 := ak hr1; have HC1 := ak hc1; clear hr1 hc1; have HB := ak (Below.refl w.heap.size w); have HR_ := ak hr_; clear hr_; have H : ((compasslaw11_awake.f k).bind fun t657 => (if t657 = true then (if a0_0 > 64 then (compasslaw11_ProofPlanFull.j0 k l1 true a0_0 l0_1) else (if (l0_1.length : Int) > 256 then (compasslaw11_ProofPlanFull.j0 k l1 true a0_0 l0_1) else ((compassref11_Supplies.f k a0_0 l0_1 l1).bind fun t658 => (compasslaw11_ProofPlanFull.j0 k l1 (t658 != 0) a0_0 l0_1)))) else (some false))) = some r := h; clear h; replace H := Option.bind_eq_some_iff.mp H; obtain ⟨t657, A30, H⟩ := H; have A3 := ak A30; clear A30
 by_cases c4 : t657 = true
 rotate_left
 ·
  replace c4 := Bool.eq_false_iff.mpr c4; subst c4
  have H1 : (some false) = some r := by rw [if_neg (show ¬ (false = true) by decide)] at H; exact H
  clear H; have H := H1; clear H1
  exact absurd ((Option.some.inj H).trans HR_.out) (by decide)
 subst c4
 replace H := ip H; have HC5 := ak H; clear H
 go_enter Try.func10, Try.ntmps10
 go_upto_region 3 with (first | ((with_reducible refine gate_dst (N := 2) rfl ?_); (try (refine gate_guard (by rfl) ?_; dsimp only)); refine bxe 2 #[.int .i64 a0_0, .slice A0_1 l0_1.length c0_1] 24 ?_; intro gb656 hg w6 hbox hb; have n0_ := ak (bl hb); have n1_ := ak (hbox); have n2_ := ak (gw w hg); have n3_ := ak (gw w hg); clear HB; have HB := n0_; have BK656 := n1_; have GW656 := n2_; have GE656 := n3_; clear n0_ n1_ n2_ n3_; clear hb hbox hg) | ((with_reducible refine gate_callee (f := 15) rfl ?_); refine gl 11 Try.func15 #[] ?_; (with_reducible refine (compasslaw11_awake.calls k true _ rfl A3.out).mono ?_); rintro e w7 ⟨rfl, hb⟩; refine ⟨_, rfl, ?_⟩; have n0_ := ak (bo BK656 hb); have n1_ := ak (bl hb); clear BK656; clear HB; have BK656 := n0_; have HB := n1_; clear n0_ n1_; clear hb))
 (try simp only [Act.put, sA, sZ, sS])
 go_cut [27] (fun v27 wc => ∃ (kq : Nat) (x27_4 : Bool), v27 = .bool x27_4 ∧ Aside0 (compasslaw11_ProofPlanFull.j0 kq l1 x27_4 a0_0 l0_1 = some r) ∧ Aside0 (kq ≤ k) ∧ Aside0 (wc.heap[gb656]? = some (.cells #[.int .i64 a0_0, (.slice A0_1 l0_1.length c0_1)] 24 (0, 0))) ∧ Aside0 (Below w.heap.size w wc))
 case first =>
  have H := HC5.out; clear HC5
  by_cases c8 : a0_0 > 64
  ·
   rw [if_pos c8] at H; have c8b0 := decide_eq_true c8; clear c8
   (first | rw [c8b0] | (simp only [i64_w, i32_w]; rw [c8b0]) | skip)
   have H' := ak H; clear H; have ⟨_, _, _, _⟩ := cf2 BK656
   go_wp2
   go_meet
   case rel => exact ⟨_, (true), sr, H', ⟨by first | omega | exact Nat.le_refl _⟩, xb BK656, ⟨lb⟩⟩
  rw [if_neg c8] at H; have c8b0 := decide_eq_false c8; clear c8
  (first | rw [c8b0] | (simp only [i64_w, i32_w]; rw [c8b0]) | skip)
  by_cases c10 : (l0_1.length : Int) > 256
  rotate_left
  ·
   rw [if_neg c10] at H; have c10b0 := decide_eq_false c10
   have c10b1 : decide (256 < l0_1.length) = false := decide_eq_false (by omega)
   clear c10; replace H := Option.bind_eq_some_iff.mp H; obtain ⟨t658, A120, H⟩ := H; have A12 := ak A120; clear A120; have H' := ak H; clear H; have ⟨_, _, _, _⟩ := cf2 BK656
   go_wp2_with (first | (go_at_call 33; (with_reducible refine (compassref11_Supplies.calls k a0_0 _ _ l0_1 _ _ l1 t658 _ (Kd.C_below HR0_1.out lb) HC0_1.out (Kd.C_below HR1.out lb) HC1.out A12.out).mono ?_); rintro e w14 ⟨rfl, hb⟩; have n0_ := ak (bo BK656 hb); have n1_ := ak (bl hb); clear BK656; clear HB; have BK656 := n0_; have HB := n1_; clear n0_ n1_; clear hb))
   go_meet
   case rel => exact ⟨_, ((t658 != 0)), sr, H', ⟨by first | omega | exact Nat.le_refl _⟩, xb BK656, ⟨lb⟩⟩
  rw [if_pos c10] at H; have c10b0 := decide_eq_true c10
  have c10b1 : decide (256 < l0_1.length) = true := decide_eq_true (by omega)
  clear c10; have H' := ak H; clear H; have ⟨_, _, _, _⟩ := cf2 BK656
  go_wp2
  go_meet
  case rel => exact ⟨_, (true), sr, H', ⟨by first | omega | exact Nat.le_refl _⟩, xb BK656, ⟨lb⟩⟩
 case rest =>
  clear HC5; obtain ⟨kq, x27_4, rfl, HA, HJ4, BK656, HB⟩ := hcut
  cases kq with
  | zero => exact absurd HA.out (by simp [compasslaw11_ProofPlanFull.j0])
  | succ kj4 =>
   have H := HA.out; clear HA
   simp only [compasslaw11_ProofPlanFull.j0] at H
   by_cases c15 : x27_4 = true
   ·
    subst c15
    replace H := ip H; obtain rfl := Option.some.inj H
    go_wp2
    go_ret
    exact ⟨er, lb⟩
   replace c15 := Bool.eq_false_iff.mpr c15; subst c15
   have H1 : ((compassref11_MinCost.f kj4 a0_0 l0_1 l1).bind fun bt659 => (if bt659.2.2.2 = true then ((proof_Cheapest.f kj4 a0_0 l0_1 l1 bt659.1 bt659.2.1).bind fun bt669 => (if bt669.2 = 0 then ((compassref11_Total.f kj4 a0_0 l0_1 bt659.1).bind fun t671 => (some (bt669.1 == t671))) else (some false))) else ((proof_NoPlan.f kj4 a0_0 l0_1 l1 bt659.2.2.1).bind fun t672 => (some (t672 == 0))))) = some r := by rw [if_neg (show ¬ (false = true) by decide)] at H; exact H
   clear H; have H := H1; clear H1; replace H := Option.bind_eq_some_iff.mp H; obtain ⟨⟨t659, t662, t665, t668⟩, A160, H⟩ := H; dsimp only at H; have A16 := ak A160; clear A160
   by_cases c17 : t668 = true
   rotate_left
   ·
    replace c17 := Bool.eq_false_iff.mpr c17; subst c17
    have H1 : ((proof_NoPlan.f kj4 a0_0 l0_1 l1 t665).bind fun t672 => (some (t672 == 0))) = some r := by rw [if_neg (show ¬ (false = true) by decide)] at H; exact H
    clear H; have H := H1; clear H1; replace H := Option.bind_eq_some_iff.mp H; obtain ⟨t672, A290, H⟩ := H; have A29 := ak A290; clear A290; obtain rfl := Option.some.inj H; have ⟨_, _, _, _⟩ := cf2 BK656
    go_wp2_with (first | ((with_reducible refine gate_callee (f := 34) rfl ?_); refine gl 31 Try.func34 #[.agg #[.int .i64 a0_0, .slice A0_1 l0_1.length c0_1], .slice A1 l1.length c1] ?_; (with_reducible refine (compassref11_MinCost.calls kj4 a0_0 _ _ l0_1 _ _ l1 t659 t662 t665 false _ (Kd.C_below HR0_1.out lb) HC0_1.out (Kd.C_below HR1.out lb) HC1.out A16.out).mono ?_); rintro e w31 ⟨v660, v663, v666, rfl, ho0, ho1, ho2, hb⟩; refine ⟨_, rfl, ?_⟩; have n0_ := ak (Kd.R_lower (Kd.R_mono (ok' := fun k_ => True) ho0 (fun _ hk_ => trivial)) (below_size lb)); have n1_ := ak (Kd.V_lower (Kd.V_mono (ok' := fun k_ => some k_ ≠ (v660 : Value).ownBlock ∧ some k_ ≠ (v666 : Value).ownBlock ∧ k_ ≠ gb656) ho1 (fun k_ hk_ => ⟨hk_.2.1, hk_.2.2, (Kd.freshB (g := gb656) (o := .cells #[.int .i64 a0_0, .slice A0_1 l0_1.length c0_1] 24 (0, 0)) (bx BK656.out) k_ hk_.1)⟩)) (below_size lb)); have n2_ := ak (Kd.R_lower (Kd.R_mono (ok' := fun k_ => True) ho2 (fun _ hk_ => trivial)) (below_size lb)); have n3_ := ak (bo BK656 hb); have n4_ := ak (bl hb); clear BK656; clear HB; have HO661 := n0_; have HO664 := n1_; have HO667 := n2_; have BK656 := n3_; have HB := n4_; clear n0_ n1_ n2_ n3_ n4_; clear hb; (try clear ho0); (try clear ho1); (try clear ho2); have ⟨_, _, _, _⟩ := cf2 BK656; obtain ⟨Ao33, co33, eo33⟩ := Kd.R_slice HO667.out; subst eo33) | ((with_reducible refine gate_callee (f := 24) rfl ?_); refine gl 41 Try.func24 #[.agg #[.int .i64 a0_0, .slice A0_1 l0_1.length c0_1], .slice A1 l1.length c1, .slice Ao33 t665.length co33] ?_; (with_reducible refine (proof_NoPlan.calls kj4 a0_0 _ _ l0_1 _ _ l1 _ _ t665 t672 _ ?side1 ?side2 ?side3 ?side4 ?side5 ?side6 A29.out).mono ?_); (case side1 => exact Kd.C_below HR0_1.out lb); (case side2 => exact HC0_1.out); (case side3 => exact Kd.C_below HR1.out lb); (case side4 => exact HC1.out); (case side5 => repeat (first | exact (Kd.R_reads' HO667.out).2.2 | (with_reducible refine Kd.C_alloc ?_ _) | (with_reducible refine Kd.C_drewN ?_ _) | (with_reducible refine Kd.C_drew ?_))); (case side6 => exact (Kd.R_reads' HO667.out).2.1); rintro e w34 ⟨rfl, hb⟩; refine ⟨_, rfl, ?_⟩; have n0_ := ak (ro HO661 hb); have n1_ := ak (Kd.V_below (vx HO664.out) hb); have n2_ := ak (ro HO667 hb); have n3_ := ak (bo BK656 hb); have n4_ := ak (bl hb); clear HO661; clear HO664; clear HO667; clear BK656; clear HB; have HO661 := n0_; have HO664 := n1_; have HO667 := n2_; have BK656 := n3_; have HB := n4_; clear n0_ n1_ n2_ n3_ n4_; clear hb))
    go_ret
    exact ⟨er, lb⟩
   subst c17
   replace H := ip H; replace H := Option.bind_eq_some_iff.mp H; obtain ⟨⟨t669, t670⟩, A180, H⟩ := H; dsimp only at H; have A18 := ak A180; clear A180
   by_cases c19 : t670 = 0
   rotate_left
   ·
    rw [if_neg c19] at H; have c19b := bn2 c19
    exact absurd ((Option.some.inj H).trans HR_.out) (by decide)
   rw [if_pos c19] at H; have c19b := be2 c19; clear c19; replace H := Option.bind_eq_some_iff.mp H; obtain ⟨t671, A200, H⟩ := H; have A20 := ak A200; clear A200; obtain rfl := Option.some.inj H; have ⟨_, _, _, _⟩ := cf2 BK656
   go_wp2_with (first | ((with_reducible refine gate_callee (f := 34) rfl ?_); refine gl 31 Try.func34 #[.agg #[.int .i64 a0_0, .slice A0_1 l0_1.length c0_1], .slice A1 l1.length c1] ?_; (with_reducible refine (compassref11_MinCost.calls kj4 a0_0 _ _ l0_1 _ _ l1 t659 t662 t665 true _ (Kd.C_below HR0_1.out lb) HC0_1.out (Kd.C_below HR1.out lb) HC1.out A16.out).mono ?_); rintro e w22 ⟨v660, v663, v666, rfl, ho0, ho1, ho2, hb⟩; refine ⟨_, rfl, ?_⟩; have n0_ := ak (Kd.R_lower (Kd.R_mono (ok' := fun k_ => True) ho0 (fun _ hk_ => trivial)) (below_size lb)); have n1_ := ak (Kd.V_lower (Kd.V_mono (ok' := fun k_ => some k_ ≠ (v660 : Value).ownBlock ∧ some k_ ≠ (v666 : Value).ownBlock ∧ k_ ≠ gb656) ho1 (fun k_ hk_ => ⟨hk_.2.1, hk_.2.2, (Kd.freshB (g := gb656) (o := .cells #[.int .i64 a0_0, .slice A0_1 l0_1.length c0_1] 24 (0, 0)) (bx BK656.out) k_ hk_.1)⟩)) (below_size lb)); have n2_ := ak (Kd.R_lower (Kd.R_mono (ok' := fun k_ => True) ho2 (fun _ hk_ => trivial)) (below_size lb)); have n3_ := ak (bo BK656 hb); have n4_ := ak (bl hb); clear BK656; clear HB; have HO661 := n0_; have HO664 := n1_; have HO667 := n2_; have BK656 := n3_; have HB := n4_; clear n0_ n1_ n2_ n3_ n4_; clear hb; (try clear ho0); (try clear ho1); (try clear ho2); have ⟨_, _, _, _⟩ := cf2 BK656; obtain ⟨Ao24, co24, eo24⟩ := Kd.V_slice HO664.out; subst eo24; obtain ⟨Ao25, co25, eo25⟩ := Kd.R_slice HO661.out; subst eo25) | ((with_reducible refine gate_callee (f := 22) rfl ?_); refine gl 49 Try.func22 #[.agg #[.int .i64 a0_0, .slice A0_1 l0_1.length c0_1], .agg #[.slice A1 l1.length c1, .slice Ao25 t659.length co25, .slice Ao24 t662.length co24]] ?_; (with_reducible refine (proof_Cheapest.calls kj4 a0_0 _ _ l0_1 _ _ l1 _ _ t659 _ _ t662 t669 t670 _ ?side1 ?side2 ?side3 ?side4 ?side5 ?side6 ?side7 ?side8 A18.out).mono ?_); (case side1 => exact Kd.C_below HR0_1.out lb); (case side2 => exact HC0_1.out); (case side3 => exact Kd.C_below HR1.out lb); (case side4 => exact HC1.out); (case side5 => repeat (first | exact (Kd.R_reads' HO661.out).2.2 | (with_reducible refine Kd.C_alloc ?_ _) | (with_reducible refine Kd.C_drewN ?_ _) | (with_reducible refine Kd.C_drew ?_))); (case side6 => exact (Kd.R_reads' HO661.out).2.1); (case side7 => repeat (first | exact (Kd.V_reads' HO664.out).2.2 | (with_reducible refine Kd.C_alloc ?_ _) | (with_reducible refine Kd.C_drewN ?_ _) | (with_reducible refine Kd.C_drew ?_))); (case side8 => exact (Kd.V_reads' HO664.out).2.1); rintro e w26 ⟨rfl, hb⟩; refine ⟨_, rfl, ?_⟩; have n0_ := ak (ro HO661 hb); have n1_ := ak (Kd.V_below (vx HO664.out) hb); have n2_ := ak (ro HO667 hb); have n3_ := ak (bo BK656 hb); have n4_ := ak (bl hb); clear HO661; clear HO664; clear HO667; clear BK656; clear HB; have HO661 := n0_; have HO664 := n1_; have HO667 := n2_; have BK656 := n3_; have HB := n4_; clear n0_ n1_ n2_ n3_ n4_; clear hb; have ⟨_, _, _, _⟩ := cf2 BK656) | (go_at_call 31; (with_reducible refine (compassref11_Total.calls kj4 a0_0 _ _ l0_1 _ _ t659 t671 _ ?side1 ?side2 ?side3 ?side4 A20.out).mono ?_); (case side1 => exact Kd.C_below HR0_1.out lb); (case side2 => exact HC0_1.out); (case side3 => repeat (first | exact (Kd.R_reads' HO661.out).2.2 | (with_reducible refine Kd.C_alloc ?_ _) | (with_reducible refine Kd.C_drewN ?_ _) | (with_reducible refine Kd.C_drew ?_))); (case side4 => exact (Kd.R_reads' HO661.out).2.1); rintro e w28 ⟨rfl, hb⟩; have n0_ := ak (ro HO661 hb); have n1_ := ak (Kd.V_below (vx HO664.out) hb); have n2_ := ak (ro HO667 hb); have n3_ := ak (bo BK656 hb); have n4_ := ak (bl hb); clear HO661; clear HO664; clear HO667; clear BK656; clear HB; have HO661 := n0_; have HO664 := n1_; have HO667 := n2_; have BK656 := n3_; have HB := n4_; clear n0_ n1_ n2_ n3_ n4_; clear hb))
   go_ret
   exact ⟨er, lb⟩
end Go.Proofs.Ytkdoihcjhccliaa.Q
