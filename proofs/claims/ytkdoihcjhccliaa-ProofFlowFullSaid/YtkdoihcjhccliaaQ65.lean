import Derived.Test.YtkdoihcjhccliaaV3
import Derived.Test.YtkdoihcjhccliaaQ0
import Derived.Test.YtkdoihcjhccliaaQ3
import Derived.Test.YtkdoihcjhccliaaQ9
import Derived.Test.YtkdoihcjhccliaaQ19
import Derived.Test.YtkdoihcjhccliaaQ20
import Derived.Test.YtkdoihcjhccliaaQ24
import Derived.Test.YtkdoihcjhccliaaQ64
namespace Go.Proofs.Ytkdoihcjhccliaa.Q
open Go.RowKit Go.Proofs.YtkdoihcjhccliaaW.PrintWords Go.Proofs.YtkdoihcjhccliaaW.PrintLast Go.Proofs.YtkdoihcjhccliaaW.PrintMore
attribute [local go_sem] max2_int min2_int max_two min_two max_three min_three max_four min_four   -- for this text's walks alone
set_option linter.unusedVariables false
set_option linter.unusedSimpArgs false

/-! ### compasslaw11_ProofFlowFull: function 5 -/
def compasslaw11_ProofFlowFull.j0 : Nat → Int → Int → Bool → Int → List (S98) → Option (Bool)
  | 0, _, _, _, _, _ => none
  | k + 1, x1, x2, x28, x401000, x401001 => if x28 = true then (some true) else ((compassref11_MaxFlow.f k x401000 x401001 x1 x2).bind fun bt403 => ((proof_Max.f k x401000 x401001 x1 x2 bt403.1 bt403.2).bind fun bt409 => (if bt409.2 = 0 then ((compassref11_Out.f k x401000 x401001 bt403.1 x1).bind fun t411 => (some (bt409.1 == t411))) else (some false))))
def compasslaw11_ProofFlowFull.f (k : Nat) (a0_0 : Int) (l0_1 : List (S98)) (a1 : Int) (a2 : Int) : Option (Bool) := (compasslaw11_awake.f k).bind fun t401 => (if t401 = true then (if a0_0 > 64 then (compasslaw11_ProofFlowFull.j0 k a1 a2 true a0_0 l0_1) else (if (l0_1.length : Int) > 256 then (compasslaw11_ProofFlowFull.j0 k a1 a2 true a0_0 l0_1) else ((compassref11_Ends.f k a0_0 l0_1 a1 a2).bind fun t402 => (compasslaw11_ProofFlowFull.j0 k a1 a2 (t402 != 0) a0_0 l0_1)))) else (some false))
set_option maxHeartbeats 8000000 in
set_option maxRecDepth 100000 in
theorem compasslaw11_ProofFlowFull.calls (k : Nat) (a0_0 : Int) (A0_1 : Option Addr) (c0_1 : Nat) (l0_1 : List (S98)) (a1 : Int) (a2 : Int) (r : Bool) (w : World) (hr0_1 : Kd.C k98 w A0_1 l0_1.length l0_1) (hc0_1 : l0_1.length ≤ c0_1) (hr_ : r = true) (h : compasslaw11_ProofFlowFull.f k a0_0 l0_1 a1 a2 = some r) :
    Calls Try.prog 5 #[.agg #[.int .i64 a0_0, .slice A0_1 l0_1.length c0_1], .int .i64 a1, .int .i64 a2] w fun e w' => e = .returned (.bool r) ∧ Below w.heap.size w w' := by
 have hu24 := Try.underlying24; have hu28 := Try.underlying28; have HR0_1 := ak hr0_1; have HC0_1 := ak hc0_1; clear hr0_1 hc0_1; have HB := ak (Below.refl w.heap.size w); have HR_ := ak hr_; clear hr_; have H : ((compasslaw11_awake.f k).bind fun t401 => (if t401 = true then (if a0_0 > 64 then (compasslaw11_ProofFlowFull.j0 k a1 a2 true a0_0 l0_1) else (if (l0_1.length : Int) > 256 then (compasslaw11_ProofFlowFull.j0 k a1 a2 true a0_0 l0_1) else ((compassref11_Ends.f k a0_0 l0_1 a1 a2).bind fun t402 => (compasslaw11_ProofFlowFull.j0 k a1 a2 (t402 != 0) a0_0 l0_1)))) else (some false))) = some r := h; clear h; replace H := Option.bind_eq_some_iff.mp H; obtain ⟨t401, A40, H⟩ := H; have A4 := ak A40; clear A40
 by_cases c5 : t401 = true
 rotate_left
 ·
  replace c5 := Bool.eq_false_iff.mpr c5; subst c5
  have H1 : (some false) = some r := by rw [if_neg (show ¬ (false = true) by decide)] at H; exact H
  clear H; have H := H1; clear H1
  exact absurd ((Option.some.inj H).trans HR_.out) (by decide)
 subst c5
 replace H := ip H; have HC6 := ak H; clear H
 go_enter Try.func5, Try.ntmps5
 go_upto_region 3 with (first | ((with_reducible refine gate_dst (N := 3) rfl ?_); (try (refine gate_guard (by rfl) ?_; dsimp only)); refine bxe 3 #[.int .i64 a0_0, .slice A0_1 l0_1.length c0_1] 24 ?_; intro gb400 hg w7 hbox hb; have n0_ := ak (bl hb); have n1_ := ak (hbox); have n2_ := ak (gw w hg); have n3_ := ak (gw w hg); clear HB; have HB := n0_; have BK400 := n1_; have GW400 := n2_; have GE400 := n3_; clear n0_ n1_ n2_ n3_; clear hb hbox hg) | ((with_reducible refine gate_callee (f := 15) rfl ?_); refine gl 11 Try.func15 #[] ?_; (with_reducible refine (compasslaw11_awake.calls k true _ rfl A4.out).mono ?_); rintro e w8 ⟨rfl, hb⟩; refine ⟨_, rfl, ?_⟩; have n0_ := ak (bo BK400 hb); have n1_ := ak (bl hb); clear BK400; clear HB; have BK400 := n0_; have HB := n1_; clear n0_ n1_; clear hb))
 (try simp only [Act.put, sA, sZ, sS])
 go_cut [28] (fun v28 wc => ∃ (kq : Nat) (x28_5 : Bool), v28 = .bool x28_5 ∧ Aside0 (compasslaw11_ProofFlowFull.j0 kq a1 a2 x28_5 a0_0 l0_1 = some r) ∧ Aside0 (kq ≤ k) ∧ Aside0 (wc.heap[gb400]? = some (.cells #[.int .i64 a0_0, (.slice A0_1 l0_1.length c0_1)] 24 (0, 0))) ∧ Aside0 (Below w.heap.size w wc))
 case first =>
  have H := HC6.out; clear HC6
  by_cases c9 : a0_0 > 64
  ·
   rw [if_pos c9] at H; have c9b0 := decide_eq_true c9; clear c9
   (first | rw [c9b0] | (simp only [i64_w, i32_w]; rw [c9b0]) | skip)
   have H' := ak H; clear H; have ⟨_, _, _, _⟩ := cf2 BK400
   go_wp2
   go_meet
   case rel => exact ⟨_, (true), sr, H', ⟨by first | omega | exact Nat.le_refl _⟩, xb BK400, ⟨lb⟩⟩
  rw [if_neg c9] at H; have c9b0 := decide_eq_false c9; clear c9
  (first | rw [c9b0] | (simp only [i64_w, i32_w]; rw [c9b0]) | skip)
  by_cases c11 : (l0_1.length : Int) > 256
  rotate_left
  ·
   rw [if_neg c11] at H; have c11b0 := decide_eq_false c11
   have c11b1 : decide (256 < l0_1.length) = false := decide_eq_false (by omega)
   clear c11; replace H := Option.bind_eq_some_iff.mp H; obtain ⟨t402, A130, H⟩ := H; have A13 := ak A130; clear A130; have H' := ak H; clear H; have ⟨_, _, _, _⟩ := cf2 BK400
   go_wp2_with (first | (go_at_call 20; (with_reducible refine (compassref11_Ends.calls k a0_0 _ _ l0_1 a1 a2 t402 _ (Kd.C_below HR0_1.out lb) HC0_1.out A13.out).mono ?_); rintro e w15 ⟨rfl, hb⟩; have n0_ := ak (bo BK400 hb); have n1_ := ak (bl hb); clear BK400; clear HB; have BK400 := n0_; have HB := n1_; clear n0_ n1_; clear hb))
   go_meet
   case rel => exact ⟨_, ((t402 != 0)), sr, H', ⟨by first | omega | exact Nat.le_refl _⟩, xb BK400, ⟨lb⟩⟩
  rw [if_pos c11] at H; have c11b0 := decide_eq_true c11
  have c11b1 : decide (256 < l0_1.length) = true := decide_eq_true (by omega)
  clear c11; have H' := ak H; clear H; have ⟨_, _, _, _⟩ := cf2 BK400
  go_wp2
  go_meet
  case rel => exact ⟨_, (true), sr, H', ⟨by first | omega | exact Nat.le_refl _⟩, xb BK400, ⟨lb⟩⟩
 case rest =>
  clear HC6; obtain ⟨kq, x28_5, rfl, HA, HJ5, BK400, HB⟩ := hcut
  cases kq with
  | zero => exact absurd HA.out (by simp [compasslaw11_ProofFlowFull.j0])
  | succ kj5 =>
   have H := HA.out; clear HA
   simp only [compasslaw11_ProofFlowFull.j0] at H
   by_cases c16 : x28_5 = true
   ·
    subst c16
    replace H := ip H; obtain rfl := Option.some.inj H
    go_wp2
    go_ret
    exact ⟨er, lb⟩
   replace c16 := Bool.eq_false_iff.mpr c16; subst c16
   have H1 : ((compassref11_MaxFlow.f kj5 a0_0 l0_1 a1 a2).bind fun bt403 => ((proof_Max.f kj5 a0_0 l0_1 a1 a2 bt403.1 bt403.2).bind fun bt409 => (if bt409.2 = 0 then ((compassref11_Out.f kj5 a0_0 l0_1 bt403.1 a1).bind fun t411 => (some (bt409.1 == t411))) else (some false)))) = some r := by rw [if_neg (show ¬ (false = true) by decide)] at H; exact H
   clear H; have H := H1; clear H1; replace H := Option.bind_eq_some_iff.mp H; obtain ⟨⟨t403, t406⟩, A170, H⟩ := H; dsimp only at H; have A17 := ak A170; clear A170; replace H := Option.bind_eq_some_iff.mp H; obtain ⟨⟨t409, t410⟩, A180, H⟩ := H; dsimp only at H; have A18 := ak A180; clear A180
   by_cases c19 : t410 = 0
   rotate_left
   ·
    rw [if_neg c19] at H; have c19b := bn2 c19
    exact absurd ((Option.some.inj H).trans HR_.out) (by decide)
   rw [if_pos c19] at H; have c19b := be2 c19; clear c19; replace H := Option.bind_eq_some_iff.mp H; obtain ⟨t411, A200, H⟩ := H; have A20 := ak A200; clear A200; obtain rfl := Option.some.inj H; have ⟨_, _, _, _⟩ := cf2 BK400
   go_wp2_with (first | ((with_reducible refine gate_callee (f := 21) rfl ?_); refine gl 33 Try.func21 #[.agg #[.int .i64 a0_0, .slice A0_1 l0_1.length c0_1], .int .i64 a1, .int .i64 a2] ?_; (with_reducible refine (compassref11_MaxFlow.calls kj5 a0_0 _ _ l0_1 a1 a2 t403 t406 _ (Kd.C_below HR0_1.out lb) HC0_1.out A17.out).mono ?_); rintro e w22 ⟨v404, v407, rfl, ho0, ho1, hb⟩; refine ⟨_, rfl, ?_⟩; have n0_ := ak (Kd.R_lower ho0 (below_size lb)); have n1_ := ak (Kd.R_lower ho1 (below_size lb)); have n2_ := ak (bo BK400 hb); have n3_ := ak (bl hb); clear BK400; clear HB; have HO405 := n0_; have HO408 := n1_; have BK400 := n2_; have HB := n3_; clear n0_ n1_ n2_ n3_; clear hb; (try clear ho0); (try clear ho1); have ⟨_, _, _, _⟩ := cf2 BK400; obtain ⟨Ao24, co24, eo24⟩ := Kd.R_slice HO408.out; subst eo24; obtain ⟨Ao25, co25, eo25⟩ := Kd.R_slice HO405.out; subst eo25) | ((with_reducible refine gate_callee (f := 16) rfl ?_); refine gl 43 Try.func16 #[.agg #[.int .i64 a0_0, .slice A0_1 l0_1.length c0_1], .agg #[.int .i64 a1, .int .i64 a2, .slice Ao25 t403.length co25, .slice Ao24 t406.length co24]] ?_; (with_reducible refine (proof_Max.calls kj5 a0_0 _ _ l0_1 a1 a2 _ _ t403 _ _ t406 t409 t410 _ ?side1 ?side2 ?side3 ?side4 ?side5 ?side6 A18.out).mono ?_); (case side1 => exact Kd.C_below HR0_1.out lb); (case side2 => exact HC0_1.out); (case side3 => repeat (first | exact (Kd.R_reads' HO405.out).2.2 | (with_reducible refine Kd.C_alloc ?_ _) | (with_reducible refine Kd.C_drewN ?_ _) | (with_reducible refine Kd.C_drew ?_))); (case side4 => exact (Kd.R_reads' HO405.out).2.1); (case side5 => repeat (first | exact (Kd.R_reads' HO408.out).2.2 | (with_reducible refine Kd.C_alloc ?_ _) | (with_reducible refine Kd.C_drewN ?_ _) | (with_reducible refine Kd.C_drew ?_))); (case side6 => exact (Kd.R_reads' HO408.out).2.1); rintro e w26 ⟨rfl, hb⟩; refine ⟨_, rfl, ?_⟩; have n0_ := ak (ro HO405 hb); have n1_ := ak (ro HO408 hb); have n2_ := ak (bo BK400 hb); have n3_ := ak (bl hb); clear HO405; clear HO408; clear BK400; clear HB; have HO405 := n0_; have HO408 := n1_; have BK400 := n2_; have HB := n3_; clear n0_ n1_ n2_ n3_; clear hb; have ⟨_, _, _, _⟩ := cf2 BK400) | (go_at_call 18; (with_reducible refine (compassref11_Out.calls kj5 a0_0 _ _ l0_1 _ _ t403 a1 t411 _ ?side1 ?side2 ?side3 ?side4 A20.out).mono ?_); (case side1 => exact Kd.C_below HR0_1.out lb); (case side2 => exact HC0_1.out); (case side3 => repeat (first | exact (Kd.R_reads' HO405.out).2.2 | (with_reducible refine Kd.C_alloc ?_ _) | (with_reducible refine Kd.C_drewN ?_ _) | (with_reducible refine Kd.C_drew ?_))); (case side4 => exact (Kd.R_reads' HO405.out).2.1); rintro e w28 ⟨rfl, hb⟩; have n0_ := ak (ro HO405 hb); have n1_ := ak (ro HO408 hb); have n2_ := ak (bo BK400 hb); have n3_ := ak (bl hb); clear HO405; clear HO408; clear BK400; clear HB; have HO405 := n0_; have HO408 := n1_; have BK400 := n2_; have HB := n3_; clear n0_ n1_ n2_ n3_; clear hb))
   go_ret
   exact ⟨er, lb⟩
end Go.Proofs.Ytkdoihcjhccliaa.Q
