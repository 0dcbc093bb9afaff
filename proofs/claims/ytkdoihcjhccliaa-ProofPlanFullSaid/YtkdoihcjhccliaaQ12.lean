import Derived.Test.YtkdoihcjhccliaaQ0
import Derived.Test.YtkdoihcjhccliaaQ3
import Derived.Test.YtkdoihcjhccliaaQ5
import Derived.Test.YtkdoihcjhccliaaQ6
import Derived.Test.YtkdoihcjhccliaaQ9
import Derived.Test.YtkdoihcjhccliaaQ10
import Derived.Test.YtkdoihcjhccliaaQ11
namespace Go.Proofs.Ytkdoihcjhccliaa.Q
open Go.RowKit Go.Proofs.YtkdoihcjhccliaaW.PrintWords Go.Proofs.YtkdoihcjhccliaaW.PrintLast Go.Proofs.YtkdoihcjhccliaaW.PrintMore
attribute [local go_sem] max2_int min2_int max_two min_two max_three min_three max_four min_four   -- for this text's walks alone
set_option linter.unusedVariables false
set_option linter.unusedSimpArgs false

set_option maxHeartbeats 8000000 in
set_option maxRecDepth 100000 in
theorem proof_Cheapest_1.calls (k : Nat) (a0_0 : Int) (A0_1 : Option Addr) (c0_1 : Nat) (l0_1 : List (S98)) (A1_0 : Option Addr) (c1_0 : Nat) (l1_0 : List Int) (A1_1 : Option Addr) (c1_1 : Nat) (l1_1 : List Int) (A1_2 : Option Addr) (c1_2 : Nat) (l1_2 : List Int) (a2 : Int) (r1 : Int) (r2 : Int) (w wc0 : World) (gb159 gb160 gb161 gbx : Nat) (hr0_1 : Kd.C k98 w A0_1 l0_1.length l0_1) (hc0_1 : l0_1.length ≤ c0_1) (hr1_0 : Kd.C (Kd.int .i64) w A1_0 l1_0.length l1_0) (hc1_0 : l1_0.length ≤ c1_0) (hr1_1 : Kd.C (Kd.int .i64) w A1_1 l1_1.length l1_1) (hc1_1 : l1_1.length ≤ c1_1) (hr1_2 : Kd.C (Kd.int .i64) w A1_2 l1_2.length l1_2) (hc1_2 : l1_2.length ≤ c1_2) (hB : Below w.heap.size w wc0) (hb0_ : wc0.heap[gb159]? = some (.cells #[.int .i64 a0_0, .slice A0_1 l0_1.length c0_1] 24 (0, 0))) (hg0_ : w.heap.size ≤ gb159) (hb1_ : wc0.heap[gb160]? = some (.cells #[.slice A1_0 l1_0.length c1_0, .slice A1_1 l1_1.length c1_1, .slice A1_2 l1_2.length c1_2] 44 (0, 0))) (hg1_ : w.heap.size ≤ gb160) (hb2_ : wc0.heap[gb161]? = some (.cells #[.int .i64 a2] 2 (0, 0))) (hg2_ : w.heap.size ≤ gb161) (hb3_ : wc0.heap[gbx]? = some (.cells #[.int .i64 0] 30 (0, 0))) (hg3_ : w.heap.size ≤ gbx) (hn0_1_ : gb159 ≠ gb160) (hn0_2_ : gb159 ≠ gb161) (hn0_3_ : gb159 ≠ gbx) (hn1_2_ : gb160 ≠ gb161) (hn1_3_ : gb160 ≠ gbx) (hn2_3_ : gb161 ≠ gbx) (h : proof_Cheapest_1.f k a0_0 l0_1 l1_0 l1_1 l1_2 a2 = some (r1, r2)) :
    Calls Try.prog 60 #[.pointer (some ⟨gb159, 0, none⟩), .pointer (some ⟨gb160, 0, none⟩), .pointer (some ⟨gb161, 0, none⟩)] wc0 fun e w' => Gave r1 (e = .returned (.tuple #[])) (e = gave r1) ∧ w'.heap[gb161]? = some (.cells #[.int .i64 r2] 2 (0, 0)) ∧ w'.heap[gbx]? = some (.cells #[.int .i64 0] 30 (0, 0)) ∧ Below w.heap.size w w' := by
 have hu24 := Try.underlying24; have hu98 := Try.underlying98; have HR0_1 := ak hr0_1; have HC0_1 := ak hc0_1; clear hr0_1 hc0_1; have HR1_0 := ak hr1_0; have HC1_0 := ak hc1_0; clear hr1_0 hc1_0; have HR1_1 := ak hr1_1; have HC1_1 := ak hc1_1; clear hr1_1 hc1_1; have HR1_2 := ak hr1_2; have HC1_2 := ak hc1_2; clear hr1_2 hc1_2; have HB := ak hB; clear hB; have BK159 := ak hb0_; have GW159 := ak hg0_; have GE159 := ak hg0_; have BK160 := ak hb1_; have GW160 := ak hg1_; have GE160 := ak hg1_; have BK161 := ak hb2_; have GW161 := ak hg2_; have GE161 := ak hg2_; have BK999 := ak hb3_; have GW999 := ak hg3_; have GE999 := ak hg3_; have NB159_160 := ak hn0_1_; have NB160_159 := ak hn0_1_.symm; have NB159_161 := ak hn0_2_; have NB161_159 := ak hn0_2_.symm; have NB159_999 := ak hn0_3_; have NB999_159 := ak hn0_3_.symm; have NB160_161 := ak hn1_2_; have NB161_160 := ak hn1_2_.symm; have NB160_999 := ak hn1_3_; have NB999_160 := ak hn1_3_.symm; have NB161_999 := ak hn2_3_; have NB999_161 := ak hn2_3_.symm; clear hb0_ hg0_ hb1_ hg1_ hb2_ hg2_ hb3_ hg3_ hn0_1_ hn0_2_ hn0_3_ hn1_2_ hn1_3_ hn2_3_
 have H : ((proof_right.f k a0_0 l0_1).bind fun t162 => (if t162 = 0 then ((proof_supplied.f k a0_0 l0_1 l1_0).bind fun t163 => (if t163 = 0 then ((proof_carried.f k a0_0 l0_1 l1_1).bind fun bt164 => (if bt164.1 = 0 then (proof_Cheapest_1.l0 k bt164.2 (bt164.2.length : Int) 0 a0_0 l0_1 l1_0 l1_1 l1_2 a2) else (some (bt164.1, a2)))) else (some (t163, a2)))) else (some (t162, a2)))) = some (r1, r2) := h; clear h; replace H := Option.bind_eq_some_iff.mp H; obtain ⟨t162, A40, H⟩ := H
 by_cases c5 : t162 = 0
 rotate_left
 ·
  rw [if_neg c5] at H; have A4 := ak A40; clear A40
  simp only [Option.some.injEq, Prod.mk.injEq] at H
  obtain ⟨rfl, rfl⟩ := H; have ⟨_, _⟩ := nn NB159_160; have ⟨_, _⟩ := nn NB159_161; have ⟨_, _⟩ := nn NB159_999; have ⟨_, _, _, _⟩ := cf2 BK159
  go_enter Try.func60, Try.ntmps60
  go_wp2_with (first | ((with_reducible refine gate_callee (f := 50) rfl ?_); refine pl 10 Try.func50 #[.agg #[.int .i64 a0_0, .slice A0_1 l0_1.length c0_1]] ?_; (with_reducible refine (proof_right.bad k a0_0 _ _ l0_1 t162 _ (Kd.C_below HR0_1.out lb) HC0_1.out A4.out c5).mono ?_); rintro e w125 ⟨rfl, hb⟩; refine ⟨_, rfl, ?_⟩; (repeat (first | refine panic_then ?_ | refine panic_block ?_)); exact panic_body rfl (⟨Gave.no c5 rfl, blk_below (bx BK161.out) hb, blk_below (bx BK999.out) hb, below_step lb hb⟩)))

 subst c5
 replace H := ip H; have A4 := ak A40; clear A40; replace H := Option.bind_eq_some_iff.mp H; obtain ⟨t163, A60, H⟩ := H
 by_cases c7 : t163 = 0
 rotate_left
 ·
  rw [if_neg c7] at H; have A6 := ak A60; clear A60
  simp only [Option.some.injEq, Prod.mk.injEq] at H
  obtain ⟨rfl, rfl⟩ := H; have ⟨_, _⟩ := nn NB159_160; have ⟨_, _⟩ := nn NB159_161; have ⟨_, _⟩ := nn NB159_999; have ⟨_, _, _, _⟩ := cf2 BK159
  go_enter Try.func60, Try.ntmps60
  go_wp2_with (first | ((with_reducible refine gate_callee (f := 50) rfl ?_); refine gl 10 Try.func50 #[.agg #[.int .i64 a0_0, .slice A0_1 l0_1.length c0_1]] ?_; (with_reducible refine (proof_right.ok k a0_0 _ _ l0_1  _ (Kd.C_below HR0_1.out lb) HC0_1.out A4.out).mono ?_); rintro e w115 ⟨rfl, hb⟩; refine ⟨_, rfl, ?_⟩; have n0_ := ak (bo BK159 hb); have n1_ := ak (bo BK160 hb); have n2_ := ak (bo BK161 hb); have n3_ := ak (blk_below (g := gbx) (o := .cells #[.int .i64 0] 30 (0, 0)) (bx BK999.out) hb); have n4_ := ak (bl hb); clear BK159; clear BK160; clear BK161; clear BK999; clear HB; have BK159 := n0_; have BK160 := n1_; have BK161 := n2_; have BK999 := n3_; have HB := n4_; clear n0_ n1_ n2_ n3_ n4_; clear hb; have ⟨_, _, _, _⟩ := cf2 BK159; have ⟨_, _⟩ := nn NB160_161; have ⟨_, _⟩ := nn NB160_999; have ⟨_, _, _, _, _, _⟩ := cf3 BK160) | ((with_reducible refine gate_callee (f := 61) rfl ?_); refine pl 14 Try.func61 #[.agg #[.int .i64 a0_0, .slice A0_1 l0_1.length c0_1], .slice A1_0 l1_0.length c1_0] ?_; (with_reducible refine (proof_supplied.bad k a0_0 _ _ l0_1 _ _ l1_0 t163 _ (Kd.C_below HR0_1.out lb) HC0_1.out (Kd.C_below HR1_0.out lb) HC1_0.out A6.out c7).mono ?_); rintro e w120 ⟨rfl, hb⟩; refine ⟨_, rfl, ?_⟩; (repeat (first | refine panic_then ?_ | refine panic_block ?_)); exact panic_body rfl (⟨Gave.no c7 rfl, blk_below (bx BK161.out) hb, blk_below (bx BK999.out) hb, below_step lb hb⟩)))
 subst c7
 replace H := ip H; have A6 := ak A60; clear A60; replace H := Option.bind_eq_some_iff.mp H; obtain ⟨⟨t164, t165⟩, A80, H⟩ := H; dsimp only at H
 by_cases c9 : t164 = 0
 rotate_left
 ·
  rw [if_neg c9] at H; have A8 := ak A80; clear A80
  simp only [Option.some.injEq, Prod.mk.injEq] at H
  obtain ⟨rfl, rfl⟩ := H; have ⟨_, _⟩ := nn NB159_160; have ⟨_, _⟩ := nn NB159_161; have ⟨_, _⟩ := nn NB159_999; have ⟨_, _, _, _⟩ := cf2 BK159
  go_enter Try.func60, Try.ntmps60
  go_wp2_with (first | ((with_reducible refine gate_callee (f := 50) rfl ?_); refine gl 10 Try.func50 #[.agg #[.int .i64 a0_0, .slice A0_1 l0_1.length c0_1]] ?_; (with_reducible refine (proof_right.ok k a0_0 _ _ l0_1  _ (Kd.C_below HR0_1.out lb) HC0_1.out A4.out).mono ?_); rintro e w102 ⟨rfl, hb⟩; refine ⟨_, rfl, ?_⟩; have n0_ := ak (bo BK159 hb); have n1_ := ak (bo BK160 hb); have n2_ := ak (bo BK161 hb); have n3_ := ak (blk_below (g := gbx) (o := .cells #[.int .i64 0] 30 (0, 0)) (bx BK999.out) hb); have n4_ := ak (bl hb); clear BK159; clear BK160; clear BK161; clear BK999; clear HB; have BK159 := n0_; have BK160 := n1_; have BK161 := n2_; have BK999 := n3_; have HB := n4_; clear n0_ n1_ n2_ n3_ n4_; clear hb; have ⟨_, _, _, _⟩ := cf2 BK159; have ⟨_, _⟩ := nn NB160_161; have ⟨_, _⟩ := nn NB160_999; have ⟨_, _, _, _, _, _⟩ := cf3 BK160) | ((with_reducible refine gate_callee (f := 61) rfl ?_); refine gl 14 Try.func61 #[.agg #[.int .i64 a0_0, .slice A0_1 l0_1.length c0_1], .slice A1_0 l1_0.length c1_0] ?_; (with_reducible refine (proof_supplied.ok k a0_0 _ _ l0_1 _ _ l1_0  _ (Kd.C_below HR0_1.out lb) HC0_1.out (Kd.C_below HR1_0.out lb) HC1_0.out A6.out).mono ?_); rintro e w107 ⟨rfl, hb⟩; refine ⟨_, rfl, ?_⟩; have n0_ := ak (bo BK159 hb); have n1_ := ak (bo BK160 hb); have n2_ := ak (bo BK161 hb); have n3_ := ak (blk_below (g := gbx) (o := .cells #[.int .i64 0] 30 (0, 0)) (bx BK999.out) hb); have n4_ := ak (bl hb); clear BK159; clear BK160; clear BK161; clear BK999; clear HB; have BK159 := n0_; have BK160 := n1_; have BK161 := n2_; have BK999 := n3_; have HB := n4_; clear n0_ n1_ n2_ n3_ n4_; clear hb; have ⟨_, _, _, _⟩ := cf2 BK159; have ⟨_, _, _, _, _, _⟩ := cf3 BK160) | ((with_reducible refine gate_callee (f := 52) rfl ?_); refine pl 18 Try.func52 #[.agg #[.int .i64 a0_0, .slice A0_1 l0_1.length c0_1], .slice A1_1 l1_1.length c1_1] ?_; (with_reducible refine (proof_carried.bad k a0_0 _ _ l0_1 _ _ l1_1 t164 t165 _ (Kd.C_below HR0_1.out lb) HC0_1.out (Kd.C_below HR1_1.out lb) HC1_1.out A8.out c9).mono ?_); rintro e w110 ⟨rfl, hb⟩; refine ⟨_, rfl, ?_⟩; (repeat (first | refine panic_then ?_ | refine panic_block ?_)); exact panic_body rfl (⟨Gave.no c9 rfl, blk_below (bx BK161.out) hb, blk_below (bx BK999.out) hb, below_step lb hb⟩)))
 subst c9
 replace H := ip H; have A8 := ak A80; clear A80; have H' := ak H; clear H; have ⟨_, _⟩ := nn NB159_160; have ⟨_, _⟩ := nn NB159_161; have ⟨_, _⟩ := nn NB159_999; have ⟨_, _, _, _⟩ := cf2 BK159
 go_enter Try.func60, Try.ntmps60
 go_wp2_with (first | ((with_reducible refine gate_callee (f := 50) rfl ?_); refine gl 10 Try.func50 #[.agg #[.int .i64 a0_0, .slice A0_1 l0_1.length c0_1]] ?_; (with_reducible refine (proof_right.ok k a0_0 _ _ l0_1  _ (Kd.C_below HR0_1.out lb) HC0_1.out A4.out).mono ?_); rintro e w14 ⟨rfl, hb⟩; refine ⟨_, rfl, ?_⟩; have n0_ := ak (bo BK159 hb); have n1_ := ak (bo BK160 hb); have n2_ := ak (bo BK161 hb); have n3_ := ak (blk_below (g := gbx) (o := .cells #[.int .i64 0] 30 (0, 0)) (bx BK999.out) hb); have n4_ := ak (bl hb); clear BK159; clear BK160; clear BK161; clear BK999; clear HB; have BK159 := n0_; have BK160 := n1_; have BK161 := n2_; have BK999 := n3_; have HB := n4_; clear n0_ n1_ n2_ n3_ n4_; clear hb; have ⟨_, _, _, _⟩ := cf2 BK159; have ⟨_, _⟩ := nn NB160_161; have ⟨_, _⟩ := nn NB160_999; have ⟨_, _, _, _, _, _⟩ := cf3 BK160) | ((with_reducible refine gate_callee (f := 61) rfl ?_); refine gl 14 Try.func61 #[.agg #[.int .i64 a0_0, .slice A0_1 l0_1.length c0_1], .slice A1_0 l1_0.length c1_0] ?_; (with_reducible refine (proof_supplied.ok k a0_0 _ _ l0_1 _ _ l1_0  _ (Kd.C_below HR0_1.out lb) HC0_1.out (Kd.C_below HR1_0.out lb) HC1_0.out A6.out).mono ?_); rintro e w19 ⟨rfl, hb⟩; refine ⟨_, rfl, ?_⟩; have n0_ := ak (bo BK159 hb); have n1_ := ak (bo BK160 hb); have n2_ := ak (bo BK161 hb); have n3_ := ak (blk_below (g := gbx) (o := .cells #[.int .i64 0] 30 (0, 0)) (bx BK999.out) hb); have n4_ := ak (bl hb); clear BK159; clear BK160; clear BK161; clear BK999; clear HB; have BK159 := n0_; have BK160 := n1_; have BK161 := n2_; have BK999 := n3_; have HB := n4_; clear n0_ n1_ n2_ n3_ n4_; clear hb; have ⟨_, _, _, _⟩ := cf2 BK159; have ⟨_, _, _, _, _, _⟩ := cf3 BK160) | ((with_reducible refine gate_callee (f := 52) rfl ?_); refine gl 18 Try.func52 #[.agg #[.int .i64 a0_0, .slice A0_1 l0_1.length c0_1], .slice A1_1 l1_1.length c1_1] ?_; (with_reducible refine (proof_carried.ok k a0_0 _ _ l0_1 _ _ l1_1 t165 _ (Kd.C_below HR0_1.out lb) HC0_1.out (Kd.C_below HR1_1.out lb) HC1_1.out A8.out).mono ?_); rintro e w22 ⟨v166, rfl, ho0, hb⟩; refine ⟨_, rfl, ?_⟩; have n0_ := ak (Kd.R_lower (Kd.R_newB ho0 (g := gb161) (o := .cells #[.int .i64 a2] 2 (0, 0)) (bx BK161.out)) (below_size lb)); have n1_ := ak (bo BK159 hb); have n2_ := ak (bo BK160 hb); have n3_ := ak (bo BK161 hb); have n4_ := ak (blk_below (g := gbx) (o := .cells #[.int .i64 0] 30 (0, 0)) (bx BK999.out) hb); have n5_ := ak (bl hb); clear BK159; clear BK160; clear BK161; clear BK999; clear HB; have HO167 := n0_; have BK159 := n1_; have BK160 := n2_; have BK161 := n3_; have BK999 := n4_; have HB := n5_; clear n0_ n1_ n2_ n3_ n4_ n5_; clear hb; (try clear ho0); obtain ⟨Ao23, co23, eo23⟩ := Kd.R_slice HO167.out; subst eo23))
 go_loopg [20] k (fun kq v20 w' => ∃ (x20_1 : Int), v20 = .int .i64 x20_1 ∧ Aside0 (proof_Cheapest_1.l0 kq t165 (t165.length : Int) x20_1 a0_0 l0_1 l1_0 l1_1 l1_2 a2 = some (r1, r2)) ∧ Aside0 (kq ≤ k) ∧ Aside0 (Kd.R (Kd.int .i64) 2 w' w.heap.size (fun k_ => k_ ≠ gb161) (.slice Ao23 t165.length co23) t165) ∧ Aside0 (w'.heap[gb159]? = some (.cells #[.int .i64 a0_0, (.slice A0_1 l0_1.length c0_1)] 24 (0, 0))) ∧ Aside0 (w'.heap[gb160]? = some (.cells #[(.slice A1_0 l1_0.length c1_0), (.slice A1_1 l1_1.length c1_1), (.slice A1_2 l1_2.length c1_2)] 44 (0, 0))) ∧ Aside0 (w'.heap[gb161]? = some (.cells #[.int .i64 a2] 2 (0, 0))) ∧ Aside0 (w'.heap[gbx]? = some (.cells #[.int .i64 0] 30 (0, 0))) ∧ Aside0 (Below w.heap.size w w'))
 case atStart => exact ⟨(0), sr, H', ⟨Nat.le_refl _⟩, ⟨by exact rx (Kd.R_mono HO167.out (fun _ hk => hk.2))⟩, xb BK159, xb BK160, xb BK161, xb BK999, ⟨lb⟩⟩
 clear H'; obtain ⟨x20_1, rfl, HA, HK1, HO_18, BK159, BK160, BK161, BK999, HB⟩ := hrel
 cases gk with
 | zero => exact absurd HA.out (by simp [proof_Cheapest_1.l0])
 | succ k1 => ?_
 have H := HA.out; clear HA
 simp only [proof_Cheapest_1.l0] at H
 by_cases c24 : x20_1 < (t165.length : Int)
 ·
  rw [if_pos c24] at H; have c24b0 := decide_eq_true c24; clear c24; replace H := if3 H; obtain ⟨c25b0, c26b0, c27b0, H⟩ := H
  by_cases c28 : (rd t165 x20_1) = (rd l1_0 x20_1)
  rotate_left
  ·
   rw [if_neg c28] at H; have c28b := bn2 c28
   simp only [Option.some.injEq, Prod.mk.injEq] at H
   obtain ⟨rfl, rfl⟩ := H; obtain ⟨p168, q168, ad168, e168, hx168_0⟩ := wq (Kd.at_int (Kd.R_reads' HO_18.out).2.2 x20_1); cases e168; have ⟨_, _⟩ := nn NB160_159; have ⟨_, _⟩ := nn NB160_161; have ⟨_, _⟩ := nn NB160_999; have ⟨_, _, _, _, _, _⟩ := cf3 BK160; obtain ⟨p169, q169, ad169, e169, hx169_0⟩ := wq (Kd.at_int HR1_0.out x20_1); cases e169
   (try replace hx169_0 := hbc HB hx169_0)
   go_wp2_with (first | ((with_reducible refine gate_callee (f := 51) rfl ?_); refine pl 32 Try.func51 #[.bool false, .int .i64 221] ?_; refine (proof_need.bad 221 _).mono ?_; rintro e w' ⟨rfl, rfl⟩; refine ⟨_, rfl, ?_⟩; (repeat (first | refine panic_then ?_ | refine panic_block ?_)); exact panic_body rfl (⟨Gave.no da rfl, (bx BK161.out), (bx BK999.out), lb⟩)))
  rw [if_pos c28] at H; have c28b := be2 c28; clear c28; have A29 := ak (show proof_need.f true 221 = some () from rfl); have H' := ak H; clear H; obtain ⟨p168, q168, ad168, e168, hx168_0⟩ := wq (Kd.at_int (Kd.R_reads' HO_18.out).2.2 x20_1); cases e168; have ⟨_, _⟩ := nn NB160_159; have ⟨_, _⟩ := nn NB160_161; have ⟨_, _⟩ := nn NB160_999; have ⟨_, _, _, _, _, _⟩ := cf3 BK160; obtain ⟨p169, q169, ad169, e169, hx169_0⟩ := wq (Kd.at_int HR1_0.out x20_1); cases e169
  (try replace hx169_0 := hbc HB hx169_0)
  go_wp2_with (first | ((with_reducible refine gate_callee (f := 51) rfl ?_); refine gl 32 Try.func51 #[.bool true, .int .i64 221] ?_; (with_reducible refine (proof_need.calls true 221  _ A29.out).mono ?_); rintro e w' ⟨rfl, ⟨nd, rfl⟩⟩; refine ⟨_, rfl, ?_⟩))
  go_roundg k1
  case measure => have := HK1.out; omega
  case rel => exact ⟨(wrap64 (x20_1 + 1)), sr, H', ⟨by have := HK1.out; omega⟩, ⟨rx HO_18.out⟩, xb BK159, xb BK160, xb BK161, xb BK999, ⟨lb⟩⟩
 rw [if_neg c24] at H; have c24b0 := decide_eq_false c24; clear c24; replace H := Option.bind_eq_some_iff.mp H; obtain ⟨⟨t170, t171⟩, A380, H⟩ := H; dsimp only at H
 by_cases c39 : t170 = 0
 rotate_left
 ·
  rw [if_neg c39] at H; have A38 := ak A380; clear A380
  simp only [Option.some.injEq, Prod.mk.injEq] at H
  obtain ⟨rfl, rfl⟩ := H; have ⟨_, _⟩ := nn NB159_160; have ⟨_, _⟩ := nn NB159_161; have ⟨_, _⟩ := nn NB159_999; have ⟨_, _, _, _⟩ := cf2 BK159; have ⟨_, _⟩ := nn NB160_161; have ⟨_, _⟩ := nn NB160_999; have ⟨_, _, _, _, _, _⟩ := cf3 BK160
  go_wp2_with (first | ((with_reducible refine gate_callee (f := 62) rfl ?_); refine pl 37 Try.func62 #[.agg #[.int .i64 a0_0, .slice A0_1 l0_1.length c0_1], .slice A1_2 l1_2.length c1_2, .int .i64 1] ?_; (with_reducible refine (proof_reduced.bad k1 a0_0 _ _ l0_1 _ _ l1_2 1 t170 t171 _ (Kd.C_below HR0_1.out lb) HC0_1.out (Kd.C_below HR1_2.out lb) HC1_2.out A38.out c39).mono ?_); rintro e w97 ⟨rfl, hb⟩; refine ⟨_, rfl, ?_⟩; (repeat (first | refine panic_then ?_ | refine panic_block ?_)); exact panic_body rfl (⟨Gave.no c39 rfl, blk_below (bx BK161.out) hb, blk_below (bx BK999.out) hb, below_step lb hb⟩)))
 subst c39
 replace H := ip H; have A38 := ak A380; clear A380; have H' := ak H; clear H; have ⟨_, _⟩ := nn NB159_160; have ⟨_, _⟩ := nn NB159_161; have ⟨_, _⟩ := nn NB159_999; have ⟨_, _, _, _⟩ := cf2 BK159; have ⟨_, _⟩ := nn NB160_161; have ⟨_, _⟩ := nn NB160_999; have ⟨_, _, _, _, _, _⟩ := cf3 BK160
 go_wp2_with (first | ((with_reducible refine gate_callee (f := 62) rfl ?_); refine gl 37 Try.func62 #[.agg #[.int .i64 a0_0, .slice A0_1 l0_1.length c0_1], .slice A1_2 l1_2.length c1_2, .int .i64 1] ?_; (with_reducible refine (proof_reduced.ok k1 a0_0 _ _ l0_1 _ _ l1_2 1 t171 _ (Kd.C_below HR0_1.out lb) HC0_1.out (Kd.C_below HR1_2.out lb) HC1_2.out A38.out).mono ?_); rintro e w47 ⟨v172, rfl, ho0, hb⟩; refine ⟨_, rfl, ?_⟩; have n0_ := ak (Kd.R_elder' (rx HO_18.out) (Kd.R_base ho0) hb); have n1_ := ak (Kd.R_lower (Kd.R_newB (Kd.R_new' ho0 (Kd.R_lt (rx HO_18.out))) (g := gb161) (o := .cells #[.int .i64 a2] 2 (0, 0)) (bx BK161.out)) (below_size lb)); have n2_ := ak (bo BK159 hb); have n3_ := ak (bo BK160 hb); have n4_ := ak (bo BK161 hb); have n5_ := ak (blk_below (g := gbx) (o := .cells #[.int .i64 0] 30 (0, 0)) (bx BK999.out) hb); have n6_ := ak (bl hb); clear HO_18; clear BK159; clear BK160; clear BK161; clear BK999; clear HB; have HO_18 := n0_; have HO173 := n1_; have BK159 := n2_; have BK160 := n3_; have BK161 := n4_; have BK999 := n5_; have HB := n6_; clear n0_ n1_ n2_ n3_ n4_ n5_ n6_; clear hb; (try clear ho0); obtain ⟨Ao48, co48, eo48⟩ := Kd.R_slice HO173.out; subst eo48))
 go_loopg [39] k1 (fun kq v39 w' => ∃ (x39_2 : Int), v39 = .int .i64 x39_2 ∧ Aside0 (proof_Cheapest_1.l1 kq t171 (t171.length : Int) x39_2 a0_0 l0_1 l1_0 l1_1 l1_2 a2 = some (r1, r2)) ∧ Aside0 (kq ≤ k1) ∧ Aside0 (Kd.R (Kd.int .i64) 2 w' w.heap.size (fun k_ => k_ ≠ gb161) (.slice Ao48 t171.length co48) t171) ∧ Aside0 (w'.heap[gb159]? = some (.cells #[.int .i64 a0_0, (.slice A0_1 l0_1.length c0_1)] 24 (0, 0))) ∧ Aside0 (w'.heap[gb160]? = some (.cells #[(.slice A1_0 l1_0.length c1_0), (.slice A1_1 l1_1.length c1_1), (.slice A1_2 l1_2.length c1_2)] 44 (0, 0))) ∧ Aside0 (w'.heap[gb161]? = some (.cells #[.int .i64 a2] 2 (0, 0))) ∧ Aside0 (w'.heap[gbx]? = some (.cells #[.int .i64 0] 30 (0, 0))) ∧ Aside0 (Below w.heap.size w w'))
 case atStart => exact ⟨(0), sr, H', ⟨Nat.le_refl _⟩, ⟨by exact rx (Kd.R_mono HO173.out (fun _ hk => hk.2))⟩, xb BK159, xb BK160, xb BK161, xb BK999, ⟨lb⟩⟩
 clear H'; obtain ⟨x39_2, rfl, HA, HK2, HO_37, BK159, BK160, BK161, BK999, HB⟩ := hrel
 cases gk with
 | zero => exact absurd HA.out (by simp [proof_Cheapest_1.l1])
 | succ k2 => ?_
 have H := HA.out; clear HA
 simp only [proof_Cheapest_1.l1] at H
 by_cases c49 : x39_2 < (t171.length : Int)
 rotate_left
 ·
  rw [if_neg c49] at H; have c49b0 := decide_eq_false c49; clear c49; have H' := ak H; clear H; have ⟨_, _⟩ := nn NB159_160; have ⟨_, _⟩ := nn NB159_161; have ⟨_, _⟩ := nn NB159_999; have ⟨_, _, _, _⟩ := cf2 BK159
  go_wp2
  go_loopg [77] k2 (fun kq v77 w' => ∃ (x77_3 : Int) (x162000_3 : Int), v77 = .int .i64 x77_3 ∧ Aside0 (proof_Cheapest_1.l2 kq l0_1 (l0_1.length : Int) x77_3 l1_0 l1_1 l1_2 x162000_3 = some (r1, r2)) ∧ Aside0 (kq ≤ k2) ∧ Aside0 (w'.heap[gb159]? = some (.cells #[.int .i64 a0_0, (.slice A0_1 l0_1.length c0_1)] 24 (0, 0))) ∧ Aside0 (w'.heap[gb160]? = some (.cells #[(.slice A1_0 l1_0.length c1_0), (.slice A1_1 l1_1.length c1_1), (.slice A1_2 l1_2.length c1_2)] 44 (0, 0))) ∧ Aside0 (w'.heap[gb161]? = some (.cells #[.int .i64 x162000_3] 2 (0, 0))) ∧ Aside0 (w'.heap[gbx]? = some (.cells #[.int .i64 0] 30 (0, 0))) ∧ Aside0 (Below w.heap.size w w'))
  case atStart => exact ⟨(0), (a2), sr, H', ⟨Nat.le_refl _⟩, xb BK159, xb BK160, xb BK161, xb BK999, ⟨lb⟩⟩
  clear H'; obtain ⟨x77_3, x162000_3, rfl, HA, HK3, BK159, BK160, BK161, BK999, HB⟩ := hrel
  cases gk with
  | zero => exact absurd HA.out (by simp [proof_Cheapest_1.l2])
  | succ k3 => ?_
  have H := HA.out; clear HA
  simp only [proof_Cheapest_1.l2] at H
  by_cases c77 : x77_3 < (l0_1.length : Int)
  rotate_left
  ·
   rw [if_neg c77] at H; have c77b0 := decide_eq_false c77; clear c77
   simp only [Option.some.injEq, Prod.mk.injEq] at H
   obtain ⟨rfl, rfl⟩ := H
   go_wp2
   first | go_end0 | ((try simp only [Exit.inBlock, Exit.then]); refine bodyPost_ret (results_none rfl _ _ _) rfl ?_)
   exact ⟨Gave.ok (by first | rfl | (simp <;> rfl)), (bx BK161.out), (bx BK999.out), lb⟩
  rw [if_pos c77] at H; have c77b0 := decide_eq_true c77; clear c77; replace H := if3 H; obtain ⟨c78b0, c79b0, c80b0, H⟩ := H; have H' := ak H; clear H; obtain ⟨p180, q180, ad180, e180, hx180_0, hx180_1, hx180_2, hx180_3⟩ := wq (at_T98 HR0_1.out x77_3); cases e180
  (try replace hx180_0 := hbc HB hx180_0)
  (try replace hx180_1 := hbc HB hx180_1)
  (try replace hx180_2 := hbc HB hx180_2)
  (try replace hx180_3 := hbc HB hx180_3)
  try go_wp2_with (first | ((with_reducible refine gate_dst (N := 8) rfl ?_); refine bxe 8 #[.int .i64 0, .int .i64 0, .int .i64 0, .int .i64 0] 98 ?_; intro gb181 hg w81 hbox hb; have n0_ := ak (bo BK159 hb); have n1_ := ak (bo BK160 hb); have n2_ := ak (bo BK161 hb); have n3_ := ak (blk_below (g := gbx) (o := .cells #[.int .i64 0] 30 (0, 0)) (bx BK999.out) hb); have n4_ := ak (bl hb); have n5_ := ak (hbox); have n6_ := ak (gw w hg); have n7_ := ak (gw w hg); have n8_ := ak (nl hg BK159); have n9_ := ak (nr hg BK159); have n10_ := ak (nl hg BK160); have n11_ := ak (nr hg BK160); have n12_ := ak (nl hg BK161); have n13_ := ak (nr hg BK161); have n14_ := ak ((by rw [hg]; exact Nat.ne_of_lt (blk_lt (g := gbx) (o := .cells #[.int .i64 0] 30 (0, 0)) (bx BK999.out)) : gbx ≠ gb181)); have n15_ := ak ((by rw [hg]; exact Nat.ne_of_gt (blk_lt (g := gbx) (o := .cells #[.int .i64 0] 30 (0, 0)) (bx BK999.out)) : gb181 ≠ gbx)); clear BK159; clear BK160; clear BK161; clear BK999; clear HB; have BK159 := n0_; have BK160 := n1_; have BK161 := n2_; have BK999 := n3_; have HB := n4_; have BK181 := n5_; have GW181 := n6_; have GE181 := n7_; have NB159_181 := n8_; have NB181_159 := n9_; have NB160_181 := n10_; have NB181_160 := n11_; have NB161_181 := n12_; have NB181_161 := n13_; have NB999_181 := n14_; have NB181_999 := n15_; clear n0_ n1_ n2_ n3_ n4_ n5_ n6_ n7_ n8_ n9_ n10_ n11_ n12_ n13_ n14_ n15_; clear hb hbox hg; have ⟨_, _⟩ := nn NB181_159; have ⟨_, _⟩ := nn NB181_160; have ⟨_, _⟩ := nn NB181_161; have ⟨_, _⟩ := nn NB181_999; have ⟨_, _, _, _, _, _, _, _⟩ := cf4 BK181))
  have n0_ : Aside0 (((((w81.setCell ⟨gb181, 0, none⟩ (.int .i64 ((rd_T98 l0_1 x77_3).f0))).setCell ⟨gb181, 1, none⟩ (.int .i64 ((rd_T98 l0_1 x77_3).f1))).setCell ⟨gb181, 2, none⟩ (.int .i64 ((rd_T98 l0_1 x77_3).f2))).setCell ⟨gb181, 3, none⟩ (.int .i64 ((rd_T98 l0_1 x77_3).f3))).heap[gb159]? = some (.cells #[.int .i64 a0_0, .slice (some ad180) l0_1.length c0_1] 24 (0, 0))) := ⟨by (with_reducible repeat (first | refine blk_drewN ?_ _ | refine blk_drew ?_ | refine blk_alloc ?_ _)); refine blk_far ?_ NB159_181.out _; (with_reducible repeat (first | refine blk_drewN ?_ _ | refine blk_drew ?_ | refine blk_alloc ?_ _)); refine blk_far ?_ NB159_181.out _; (with_reducible repeat (first | refine blk_drewN ?_ _ | refine blk_drew ?_ | refine blk_alloc ?_ _)); refine blk_far ?_ NB159_181.out _; (with_reducible repeat (first | refine blk_drewN ?_ _ | refine blk_drew ?_ | refine blk_alloc ?_ _)); refine blk_far ?_ NB159_181.out _; exact bx BK159.out⟩
  have n1_ : Aside0 (((((w81.setCell ⟨gb181, 0, none⟩ (.int .i64 ((rd_T98 l0_1 x77_3).f0))).setCell ⟨gb181, 1, none⟩ (.int .i64 ((rd_T98 l0_1 x77_3).f1))).setCell ⟨gb181, 2, none⟩ (.int .i64 ((rd_T98 l0_1 x77_3).f2))).setCell ⟨gb181, 3, none⟩ (.int .i64 ((rd_T98 l0_1 x77_3).f3))).heap[gb160]? = some (.cells #[.slice A1_0 l1_0.length c1_0, .slice A1_1 l1_1.length c1_1, .slice A1_2 l1_2.length c1_2] 44 (0, 0))) := ⟨by (with_reducible repeat (first | refine blk_drewN ?_ _ | refine blk_drew ?_ | refine blk_alloc ?_ _)); refine blk_far ?_ NB160_181.out _; (with_reducible repeat (first | refine blk_drewN ?_ _ | refine blk_drew ?_ | refine blk_alloc ?_ _)); refine blk_far ?_ NB160_181.out _; (with_reducible repeat (first | refine blk_drewN ?_ _ | refine blk_drew ?_ | refine blk_alloc ?_ _)); refine blk_far ?_ NB160_181.out _; (with_reducible repeat (first | refine blk_drewN ?_ _ | refine blk_drew ?_ | refine blk_alloc ?_ _)); refine blk_far ?_ NB160_181.out _; exact bx BK160.out⟩
  have n2_ : Aside0 (((((w81.setCell ⟨gb181, 0, none⟩ (.int .i64 ((rd_T98 l0_1 x77_3).f0))).setCell ⟨gb181, 1, none⟩ (.int .i64 ((rd_T98 l0_1 x77_3).f1))).setCell ⟨gb181, 2, none⟩ (.int .i64 ((rd_T98 l0_1 x77_3).f2))).setCell ⟨gb181, 3, none⟩ (.int .i64 ((rd_T98 l0_1 x77_3).f3))).heap[gb161]? = some (.cells #[.int .i64 x162000_3] 2 (0, 0))) := ⟨by (with_reducible repeat (first | refine blk_drewN ?_ _ | refine blk_drew ?_ | refine blk_alloc ?_ _)); refine blk_far ?_ NB161_181.out _; (with_reducible repeat (first | refine blk_drewN ?_ _ | refine blk_drew ?_ | refine blk_alloc ?_ _)); refine blk_far ?_ NB161_181.out _; (with_reducible repeat (first | refine blk_drewN ?_ _ | refine blk_drew ?_ | refine blk_alloc ?_ _)); refine blk_far ?_ NB161_181.out _; (with_reducible repeat (first | refine blk_drewN ?_ _ | refine blk_drew ?_ | refine blk_alloc ?_ _)); refine blk_far ?_ NB161_181.out _; exact bx BK161.out⟩
  have n3_ : Aside0 (((((w81.setCell ⟨gb181, 0, none⟩ (.int .i64 ((rd_T98 l0_1 x77_3).f0))).setCell ⟨gb181, 1, none⟩ (.int .i64 ((rd_T98 l0_1 x77_3).f1))).setCell ⟨gb181, 2, none⟩ (.int .i64 ((rd_T98 l0_1 x77_3).f2))).setCell ⟨gb181, 3, none⟩ (.int .i64 ((rd_T98 l0_1 x77_3).f3))).heap[gbx]? = some (.cells #[.int .i64 0] 30 (0, 0))) := ⟨by (with_reducible repeat (first | refine blk_drewN ?_ _ | refine blk_drew ?_ | refine blk_alloc ?_ _)); refine blk_far ?_ NB999_181.out _; (with_reducible repeat (first | refine blk_drewN ?_ _ | refine blk_drew ?_ | refine blk_alloc ?_ _)); refine blk_far ?_ NB999_181.out _; (with_reducible repeat (first | refine blk_drewN ?_ _ | refine blk_drew ?_ | refine blk_alloc ?_ _)); refine blk_far ?_ NB999_181.out _; (with_reducible repeat (first | refine blk_drewN ?_ _ | refine blk_drew ?_ | refine blk_alloc ?_ _)); refine blk_far ?_ NB999_181.out _; exact bx BK999.out⟩
  have n4_ : Aside0 (((((w81.setCell ⟨gb181, 0, none⟩ (.int .i64 ((rd_T98 l0_1 x77_3).f0))).setCell ⟨gb181, 1, none⟩ (.int .i64 ((rd_T98 l0_1 x77_3).f1))).setCell ⟨gb181, 2, none⟩ (.int .i64 ((rd_T98 l0_1 x77_3).f2))).setCell ⟨gb181, 3, none⟩ (.int .i64 ((rd_T98 l0_1 x77_3).f3))).heap[gb181]? = some (.cells #[.int .i64 ((rd_T98 l0_1 x77_3).f0), .int .i64 ((rd_T98 l0_1 x77_3).f1), .int .i64 ((rd_T98 l0_1 x77_3).f2), .int .i64 ((rd_T98 l0_1 x77_3).f3)] 98 (0, 0))) := ⟨by (with_reducible repeat (first | refine blk_drewN ?_ _ | refine blk_drew ?_ | refine blk_alloc ?_ _)); refine blk_put (cs := #[.int .i64 ((rd_T98 l0_1 x77_3).f0), .int .i64 ((rd_T98 l0_1 x77_3).f1), .int .i64 ((rd_T98 l0_1 x77_3).f2), .int .i64 0]) ?_ 3 _ rfl; (with_reducible repeat (first | refine blk_drewN ?_ _ | refine blk_drew ?_ | refine blk_alloc ?_ _)); refine blk_put (cs := #[.int .i64 ((rd_T98 l0_1 x77_3).f0), .int .i64 ((rd_T98 l0_1 x77_3).f1), .int .i64 0, .int .i64 0]) ?_ 2 _ rfl; (with_reducible repeat (first | refine blk_drewN ?_ _ | refine blk_drew ?_ | refine blk_alloc ?_ _)); refine blk_put (cs := #[.int .i64 ((rd_T98 l0_1 x77_3).f0), .int .i64 0, .int .i64 0, .int .i64 0]) ?_ 1 _ rfl; (with_reducible repeat (first | refine blk_drewN ?_ _ | refine blk_drew ?_ | refine blk_alloc ?_ _)); refine blk_put (cs := #[.int .i64 0, .int .i64 0, .int .i64 0, .int .i64 0]) ?_ 0 _ rfl; exact bx BK181.out⟩
  have n5_ : Aside0 (Below w.heap.size w ((((w81.setCell ⟨gb181, 0, none⟩ (.int .i64 ((rd_T98 l0_1 x77_3).f0))).setCell ⟨gb181, 1, none⟩ (.int .i64 ((rd_T98 l0_1 x77_3).f1))).setCell ⟨gb181, 2, none⟩ (.int .i64 ((rd_T98 l0_1 x77_3).f2))).setCell ⟨gb181, 3, none⟩ (.int .i64 ((rd_T98 l0_1 x77_3).f3)))) := ⟨lb⟩
  (try clear BK159)
  (try clear BK160)
  (try clear BK161)
  (try clear BK999)
  (try clear BK181)
  (try clear HB)
  generalize ((((w81.setCell ⟨gb181, 0, none⟩ (.int .i64 ((rd_T98 l0_1 x77_3).f0))).setCell ⟨gb181, 1, none⟩ (.int .i64 ((rd_T98 l0_1 x77_3).f1))).setCell ⟨gb181, 2, none⟩ (.int .i64 ((rd_T98 l0_1 x77_3).f2))).setCell ⟨gb181, 3, none⟩ (.int .i64 ((rd_T98 l0_1 x77_3).f3))) = w87 at n0_ n1_ n2_ n3_ n4_ n5_ ⊢
  have BK159 := n0_; have BK160 := n1_; have BK161 := n2_; have BK999 := n3_; have BK181 := n4_; have HB := n5_; clear n0_ n1_ n2_ n3_ n4_ n5_; have n0_ := ak (blk_drew BK159.out); have n1_ := ak (blk_drew BK160.out); have n2_ := ak (blk_drew BK161.out); have n3_ := ak (blk_drew BK999.out); have n4_ := ak (blk_drew BK181.out); have n5_ := ak (below_drew1 HB.out); clear BK159; clear BK160; clear BK161; clear BK999; clear BK181; clear HB; have BK159 := n0_; have BK160 := n1_; have BK161 := n2_; have BK999 := n3_; have BK181 := n4_; have HB := n5_; clear n0_ n1_ n2_ n3_ n4_ n5_; obtain ⟨p182, q182, ad182, e182, hx182_0⟩ := wq (Kd.at_int HR1_1.out x77_3); have hw182_0 := hx182_0; cases e182
  (try replace hx182_0 := hbc HB hx182_0)
  refine stC 11 [10] (cX (bc0 BK161) (cX (bc0 BK181) (cX (bc1 BK181) (cX (bc2 BK181) (cX (bc3 BK181) (cX (bc0 BK160) (cX (bc1 BK160) (cX (bc2 BK160) (cY (hbc HB hw182_0)))))))))) proof_Cheapest_1.tab15 proof_Cheapest_1.bits15 fun hHeld HT_ HW_ => ?_
  generalize w87.drew = w88 at BK159 BK160 BK161 BK999 BK181 HB hx182_0 hHeld ⊢
  refine pv HT_ 1 83 ?_; refine pv HT_ 3 85 ?_; refine pv HT_ 5 87 ?_; refine tv HT_ HW_ hHeld 0 82 ?_; refine tv HT_ HW_ hHeld 2 84 ?_; refine tv HT_ HW_ hHeld 4 86 ?_; refine pv HT_ 6 88 ?_; refine tv HT_ HW_ hHeld 7 89 ?_; refine pv HT_ 8 90 ?_; refine pv HT_ 9 91 ?_
  refine last_ (i := 10) (N := none) #[T, T, T, T, T, T, T, T, T, T, T] rfl rfl (one_of HT_.out (by kernel_rfl)) (by decide) (fun K hK => ?_)
  have hs89 : w88.cell? ⟨gb161, 0, none⟩ = some (.int .i64 x162000_3) := (blk_cell BK161.out 0).trans rfl; have hfs89 := bf BK161 0; have hns89_0 := NB159_161.out; have hns89_1 := NB160_161.out; have hns89_3 := NB999_161.out; have hns89_4 := NB181_161.out; have hms89_0 := NB161_159.out; have hms89_1 := NB161_160.out; have hms89_3 := NB161_999.out; have hms89_4 := NB161_181.out
  refine skip_ (w1 := ?_) (by rfl) rfl ?_ ?_
  rotate_left
  ·
   go_simp
   rfl
  refine hK.out _ _ ?_
  clear hK K
  refine done_ (done_of HT_.out (by kernel_rfl)) ?_
  try go_wp2
  go_roundg k3
  case measure => have := HK1.out; have := HK2.out; have := HK3.out; omega
  case rel => exact ⟨(wrap64 (x77_3 + 1)), (wrap64 (x162000_3 + (wrap64 (((rd_T98 l0_1 x77_3).f3) * (rd l1_1 x77_3))))), sr, H', ⟨by have := HK1.out; have := HK2.out; have := HK3.out; omega⟩, ⟨by (with_reducible repeat (first | refine blk_drewN ?_ _ | refine blk_drew ?_ | refine blk_alloc ?_ _)); refine blk_far ?_ NB159_161.out _; exact bx BK159.out⟩, ⟨by (with_reducible repeat (first | refine blk_drewN ?_ _ | refine blk_drew ?_ | refine blk_alloc ?_ _)); refine blk_far ?_ NB160_161.out _; exact bx BK160.out⟩, ⟨by (with_reducible repeat (first | refine blk_drewN ?_ _ | refine blk_drew ?_ | refine blk_alloc ?_ _)); refine blk_put (cs := #[.int .i64 x162000_3]) ?_ 0 _ rfl; exact bx BK161.out⟩, ⟨by (with_reducible repeat (first | refine blk_drewN ?_ _ | refine blk_drew ?_ | refine blk_alloc ?_ _)); refine blk_far ?_ NB999_161.out _; exact bx BK999.out⟩, ⟨lb⟩⟩
 rw [if_pos c49] at H; have c49b0 := decide_eq_true c49; clear c49; replace H := if2 H; obtain ⟨c50b0, c51b0, H⟩ := H
 by_cases c52 : (rd t171 x39_2) ≤ 0
 ·
  rw [if_pos c52] at H; have c52b0 := decide_eq_true c52; clear c52
  by_cases c53 : (rd t171 x39_2) ≥ 0
  ·
   rw [if_pos c53] at H; have c53b0 := decide_eq_true c53; clear c53; have A54 := ak (show proof_need.f true 221 = some () from rfl); have H' := ak H; clear H; obtain ⟨p174, q174, ad174, e174, hx174_0⟩ := wq (Kd.at_int (Kd.R_reads' HO_37.out).2.2 x39_2); cases e174
   try go_wp2
   have n0_ := ak (Kd.R_drew HO_37.out); have n1_ := ak (blk_drew BK159.out); have n2_ := ak (blk_drew BK160.out); have n3_ := ak (blk_drew BK161.out); have n4_ := ak (blk_drew BK999.out); have n5_ := ak (below_drew1 HB.out); clear HO_37; clear BK159; clear BK160; clear BK161; clear BK999; clear HB; have HO_37 := n0_; have BK159 := n1_; have BK160 := n2_; have BK161 := n3_; have BK999 := n4_; have HB := n5_; clear n0_ n1_ n2_ n3_ n4_ n5_
   refine stC 29 [] cN proof_Cheapest_1.tab10 proof_Cheapest_1.bits10 fun hHeld HT_ HW_ => ?_
   generalize wr.drew = w55 at HO_37 BK159 BK160 BK161 BK999 HB hHeld ⊢
   refine pv HT_ 0 44 ?_; refine pv HT_ 1 45 ?_; refine pv HT_ 2 46 ?_; refine pu HT_ 3 47 ?_; refine pu HT_ 4 48 ?_; refine pu HT_ 5 49 ?_; refine pu HT_ 6 50 ?_; refine pu HT_ 7 51 ?_; refine pu HT_ 8 52 ?_; refine pv HT_ 9 53 ?_; refine pv HT_ 10 54 ?_; refine pv HT_ 11 55 ?_; refine pv HT_ 12 56 ?_; refine pv HT_ 13 57 ?_; refine pu HT_ 14 58 ?_; refine pu HT_ 15 59 ?_; refine pu HT_ 16 60 ?_; refine pu HT_ 17 61 ?_; refine pu HT_ 18 62 ?_; refine pu HT_ 19 63 ?_; refine pu HT_ 20 64 ?_; refine pu HT_ 21 65 ?_; refine pu HT_ 22 66 ?_; refine pu HT_ 23 67 ?_; refine pu HT_ 24 68 ?_; refine pu HT_ 25 69 ?_; refine pv HT_ 26 70 ?_; refine pv HT_ 27 71 ?_
   refine one_ (i := 28) (N := some 72) #[T, T, T, T, T, T, T, T, T, T, T, T, T, T, T, T, T, T, T, T, T, T, T, T, T, T, T, T, T] rfl rfl (one_of HT_.out (by kernel_rfl)) (by decide) (fun K hK => ?_)
   refine goes_ Try.func51 (by kernel_rfl) rfl #[.bool true, .int .i64 221] (by rfl) rfl rfl (by (try simp only [List.map_toArray, List.map_cons, List.map_nil]); first | done | rfl | (simp only [List.length_drop, List.length_take]; rfl)) ?_
   with_reducible refine (proof_need.calls true 221  _ A54.out).mono ?_
   rintro e w' ⟨rfl, ⟨nd, rfl⟩⟩
   refine ⟨_, rfl, ?_⟩
   refine hK.out _ _ trivial (fun hHeld => ?_)
   clear hK K
   refine norm_ (a' := ?_) ?_ ?_
   rotate_left
   ·
    show Act.put _ (some 72) _ = _
    simp only [Act.put, sA, sZ, sS, i64_w, i32_w]
    rfl
   refine done_ (done_of HT_.out (by kernel_rfl)) ?_
   try go_wp2
   go_roundg k2
   case measure => have := HK1.out; have := HK2.out; omega
   case rel => exact ⟨(wrap64 (x39_2 + 1)), sr, H', ⟨by have := HK1.out; have := HK2.out; omega⟩, ⟨rx HO_37.out⟩, xb BK159, xb BK160, xb BK161, xb BK999, ⟨lb⟩⟩
  rw [if_neg c53] at H; have c53b0 := decide_eq_false c53; clear c53; replace H := if2 H; obtain ⟨c56b0, c57b0, H⟩ := H
  by_cases c58 : (rd l1_1 x39_2) = ((rd_T98 l0_1 x39_2).f2)
  rotate_left
  ·
   rw [if_neg c58] at H; have c58b := bn2 c58
   simp only [Option.some.injEq, Prod.mk.injEq] at H
   obtain ⟨rfl, rfl⟩ := H; obtain ⟨p174, q174, ad174, e174, hx174_0⟩ := wq (Kd.at_int (Kd.R_reads' HO_37.out).2.2 x39_2); cases e174
   try go_wp2
   have n0_ := ak (Kd.R_drew HO_37.out); have n1_ := ak (blk_drew BK159.out); have n2_ := ak (blk_drew BK160.out); have n3_ := ak (blk_drew BK161.out); have n4_ := ak (blk_drew BK999.out); have n5_ := ak (below_drew1 HB.out); clear HO_37; clear BK159; clear BK160; clear BK161; clear BK999; clear HB; have HO_37 := n0_; have BK159 := n1_; have BK160 := n2_; have BK161 := n3_; have BK999 := n4_; have HB := n5_; clear n0_ n1_ n2_ n3_ n4_ n5_; obtain ⟨p175, q175, ad175, e175, hx175_0⟩ := wq (Kd.at_int HR1_1.out x39_2); have hw175_0 := hx175_0; cases e175
   (try replace hx175_0 := hbc HB hx175_0); obtain ⟨p176, q176, ad176, e176, hx176_0, hx176_1, hx176_2, hx176_3⟩ := wq (at_T98 HR0_1.out x39_2); have hw176_3 := hx176_3; have hw176_2 := hx176_2; have hw176_1 := hx176_1; have hw176_0 := hx176_0; cases e176
   (try replace hx176_0 := hbc HB hx176_0)
   (try replace hx176_1 := hbc HB hx176_1)
   (try replace hx176_2 := hbc HB hx176_2)
   (try replace hx176_3 := hbc HB hx176_3)
   refine stC 29 [] (cX (bc0 BK160) (cX (bc1 BK160) (cX (bc2 BK160) (cX (bc0 BK159) (cX (bc1 BK159) (cX (hbc HB hw175_0) (cX (hbc HB hw176_0) (cX (hbc HB hw176_1) (cX (hbc HB hw176_2) (cY (hbc HB hw176_3))))))))))) proof_Cheapest_1.tab10 proof_Cheapest_1.bits10 fun hHeld HT_ HW_ => ?_
   generalize wr.drew = w61 at HO_37 BK159 BK160 BK161 BK999 HB hx175_0 hx176_0 hx176_1 hx176_2 hx176_3 hHeld ⊢
   refine pv HT_ 0 44 ?_; refine pv HT_ 1 45 ?_; refine pv HT_ 2 46 ?_; refine pu HT_ 3 47 ?_; refine pu HT_ 4 48 ?_; refine pu HT_ 5 49 ?_; refine pu HT_ 6 50 ?_; refine pu HT_ 7 51 ?_; refine pu HT_ 8 52 ?_; refine pv HT_ 9 53 ?_; refine pv HT_ 10 54 ?_; refine pv HT_ 11 55 ?_; refine pv HT_ 12 56 ?_; refine pv HT_ 13 57 ?_; refine pv HT_ 14 58 ?_; refine pv HT_ 16 60 ?_; refine pv HT_ 19 63 ?_; refine pv HT_ 21 65 ?_; refine tv HT_ HW_ hHeld 15 59 ?_; refine pv HT_ 17 61 ?_; refine tv HT_ HW_ hHeld 18 62 ?_; refine tv HT_ HW_ hHeld 20 64 ?_; refine pv HT_ 22 66 ?_; refine pv HT_ 23 67 ?_; refine tv HT_ HW_ hHeld 24 68 ?_; refine pv HT_ 25 69 ?_; refine pv HT_ 26 70 ?_; refine pv HT_ 27 71 ?_
   refine one_ (i := 28) (N := some 72) #[T, T, T, T, T, T, T, T, T, T, T, T, T, T, T, T, T, T, T, T, T, T, T, T, T, T, T, T, T] rfl rfl (one_of HT_.out (by kernel_rfl)) (by decide) (fun K hK => ?_)
   refine panics_ Try.func51 (by kernel_rfl) rfl #[.bool false, .int .i64 221] (by rfl) rfl rfl (by (try simp only [List.map_toArray, List.map_cons, List.map_nil]); first | done | rfl | (simp only [List.length_drop, List.length_take]; rfl)) ?_
   refine (proof_need.bad 221 _).mono ?_
   rintro e w' ⟨rfl, rfl⟩
   refine ⟨_, rfl, ?_⟩
   (repeat (first | refine panic_then ?_ | refine panic_block ?_))
   exact panic_body rfl (⟨Gave.no da rfl, (bx BK161.out), (bx BK999.out), lb⟩)
   try go_wp2
  rw [if_pos c58] at H; have c58b := be2 c58; clear c58; have A59 := ak (show proof_need.f true 221 = some () from rfl); have H' := ak H; clear H; obtain ⟨p174, q174, ad174, e174, hx174_0⟩ := wq (Kd.at_int (Kd.R_reads' HO_37.out).2.2 x39_2); cases e174
  try go_wp2
  have n0_ := ak (Kd.R_drew HO_37.out); have n1_ := ak (blk_drew BK159.out); have n2_ := ak (blk_drew BK160.out); have n3_ := ak (blk_drew BK161.out); have n4_ := ak (blk_drew BK999.out); have n5_ := ak (below_drew1 HB.out); clear HO_37; clear BK159; clear BK160; clear BK161; clear BK999; clear HB; have HO_37 := n0_; have BK159 := n1_; have BK160 := n2_; have BK161 := n3_; have BK999 := n4_; have HB := n5_; clear n0_ n1_ n2_ n3_ n4_ n5_; obtain ⟨p175, q175, ad175, e175, hx175_0⟩ := wq (Kd.at_int HR1_1.out x39_2); have hw175_0 := hx175_0; cases e175
  (try replace hx175_0 := hbc HB hx175_0); obtain ⟨p176, q176, ad176, e176, hx176_0, hx176_1, hx176_2, hx176_3⟩ := wq (at_T98 HR0_1.out x39_2); have hw176_3 := hx176_3; have hw176_2 := hx176_2; have hw176_1 := hx176_1; have hw176_0 := hx176_0; cases e176
  (try replace hx176_0 := hbc HB hx176_0)
  (try replace hx176_1 := hbc HB hx176_1)
  (try replace hx176_2 := hbc HB hx176_2)
  (try replace hx176_3 := hbc HB hx176_3)
  refine stC 29 [] (cX (bc0 BK160) (cX (bc1 BK160) (cX (bc2 BK160) (cX (bc0 BK159) (cX (bc1 BK159) (cX (hbc HB hw175_0) (cX (hbc HB hw176_0) (cX (hbc HB hw176_1) (cX (hbc HB hw176_2) (cY (hbc HB hw176_3))))))))))) proof_Cheapest_1.tab10 proof_Cheapest_1.bits10 fun hHeld HT_ HW_ => ?_
  generalize wr.drew = w60 at HO_37 BK159 BK160 BK161 BK999 HB hx175_0 hx176_0 hx176_1 hx176_2 hx176_3 hHeld ⊢
  refine pv HT_ 0 44 ?_; refine pv HT_ 1 45 ?_; refine pv HT_ 2 46 ?_; refine pu HT_ 3 47 ?_; refine pu HT_ 4 48 ?_; refine pu HT_ 5 49 ?_; refine pu HT_ 6 50 ?_; refine pu HT_ 7 51 ?_; refine pu HT_ 8 52 ?_; refine pv HT_ 9 53 ?_; refine pv HT_ 10 54 ?_; refine pv HT_ 11 55 ?_; refine pv HT_ 12 56 ?_; refine pv HT_ 13 57 ?_; refine pv HT_ 14 58 ?_; refine pv HT_ 16 60 ?_; refine pv HT_ 19 63 ?_; refine pv HT_ 21 65 ?_; refine tv HT_ HW_ hHeld 15 59 ?_; refine pv HT_ 17 61 ?_; refine tv HT_ HW_ hHeld 18 62 ?_; refine tv HT_ HW_ hHeld 20 64 ?_; refine pv HT_ 22 66 ?_; refine pv HT_ 23 67 ?_; refine tv HT_ HW_ hHeld 24 68 ?_; refine pv HT_ 25 69 ?_; refine pv HT_ 26 70 ?_; refine pv HT_ 27 71 ?_
  refine one_ (i := 28) (N := some 72) #[T, T, T, T, T, T, T, T, T, T, T, T, T, T, T, T, T, T, T, T, T, T, T, T, T, T, T, T, T] rfl rfl (one_of HT_.out (by kernel_rfl)) (by decide) (fun K hK => ?_)
  refine goes_ Try.func51 (by kernel_rfl) rfl #[.bool true, .int .i64 221] (by rfl) rfl rfl (by (try simp only [List.map_toArray, List.map_cons, List.map_nil]); first | done | rfl | (simp only [List.length_drop, List.length_take]; rfl)) ?_
  with_reducible refine (proof_need.calls true 221  _ A59.out).mono ?_
  rintro e w' ⟨rfl, ⟨nd, rfl⟩⟩
  refine ⟨_, rfl, ?_⟩
  refine hK.out _ _ ⟨(blk_cell BK160.out 0).trans rfl, (blk_cell BK160.out 1).trans rfl, (blk_cell BK160.out 2).trans rfl, (blk_cell BK159.out 0).trans rfl, (blk_cell BK159.out 1).trans rfl, (hbc HB hw175_0), (hbc HB hw176_0), (hbc HB hw176_1), (hbc HB hw176_2), (hbc HB hw176_3)⟩ (fun hHeld => ?_)
  clear hK K
  refine norm_ (a' := ?_) ?_ ?_
  rotate_left
  ·
   show Act.put _ (some 72) _ = _
   simp only [Act.put, sA, sZ, sS, i64_w, i32_w]
   rfl
  refine done_ (done_of HT_.out (by kernel_rfl)) ?_
  try go_wp2
  go_roundg k2
  case measure => have := HK1.out; have := HK2.out; omega
  case rel => exact ⟨(wrap64 (x39_2 + 1)), sr, H', ⟨by have := HK1.out; have := HK2.out; omega⟩, ⟨rx HO_37.out⟩, xb BK159, xb BK160, xb BK161, xb BK999, ⟨lb⟩⟩
 rw [if_neg c52] at H; have c52b0 := decide_eq_false c52; clear c52; replace H := ifd H; obtain ⟨c62b0, H⟩ := H
 by_cases c63 : (rd l1_1 x39_2) = 0
 rotate_left
 ·
  rw [if_neg c63] at H; have c63b := bn2 c63
  simp only [Option.some.injEq, Prod.mk.injEq] at H
  obtain ⟨rfl, rfl⟩ := H; obtain ⟨p174, q174, ad174, e174, hx174_0⟩ := wq (Kd.at_int (Kd.R_reads' HO_37.out).2.2 x39_2); cases e174
  try go_wp2
  have n0_ := ak (Kd.R_drew HO_37.out); have n1_ := ak (blk_drew BK159.out); have n2_ := ak (blk_drew BK160.out); have n3_ := ak (blk_drew BK161.out); have n4_ := ak (blk_drew BK999.out); have n5_ := ak (below_drew1 HB.out); clear HO_37; clear BK159; clear BK160; clear BK161; clear BK999; clear HB; have HO_37 := n0_; have BK159 := n1_; have BK160 := n2_; have BK161 := n3_; have BK999 := n4_; have HB := n5_; clear n0_ n1_ n2_ n3_ n4_ n5_; obtain ⟨p177, q177, ad177, e177, hx177_0⟩ := wq (Kd.at_int HR1_1.out x39_2); have hw177_0 := hx177_0; cases e177
  (try replace hx177_0 := hbc HB hx177_0)
  refine stC 29 [] (cX (bc0 BK160) (cX (bc1 BK160) (cX (bc2 BK160) (cY (hbc HB hw177_0))))) proof_Cheapest_1.tab10 proof_Cheapest_1.bits10 fun hHeld HT_ HW_ => ?_
  generalize wr.drew = w72 at HO_37 BK159 BK160 BK161 BK999 HB hx177_0 hHeld ⊢
  refine pv HT_ 0 44 ?_; refine pv HT_ 1 45 ?_; refine pv HT_ 2 46 ?_; refine pv HT_ 3 47 ?_; refine pv HT_ 5 49 ?_; refine tv HT_ HW_ hHeld 4 48 ?_; refine pv HT_ 6 50 ?_; refine tv HT_ HW_ hHeld 7 51 ?_; refine pv HT_ 8 52 ?_; refine pv HT_ 9 53 ?_; refine pv HT_ 10 54 ?_; refine pu HT_ 11 55 ?_; refine pu HT_ 12 56 ?_; refine pu HT_ 13 57 ?_; refine pu HT_ 14 58 ?_; refine pu HT_ 15 59 ?_; refine pu HT_ 16 60 ?_; refine pu HT_ 17 61 ?_; refine pu HT_ 18 62 ?_; refine pu HT_ 19 63 ?_; refine pu HT_ 20 64 ?_; refine pu HT_ 21 65 ?_; refine pu HT_ 22 66 ?_; refine pu HT_ 23 67 ?_; refine pu HT_ 24 68 ?_; refine pu HT_ 25 69 ?_; refine pu HT_ 26 70 ?_; refine pv HT_ 27 71 ?_
  refine one_ (i := 28) (N := some 72) #[T, T, T, T, T, T, T, T, T, T, T, T, T, T, T, T, T, T, T, T, T, T, T, T, T, T, T, T, T] rfl rfl (one_of HT_.out (by kernel_rfl)) (by decide) (fun K hK => ?_)
  refine panics_ Try.func51 (by kernel_rfl) rfl #[.bool false, .int .i64 221] (by rfl) rfl rfl (by (try simp only [List.map_toArray, List.map_cons, List.map_nil]); first | done | rfl | (simp only [List.length_drop, List.length_take]; rfl)) ?_
  refine (proof_need.bad 221 _).mono ?_
  rintro e w' ⟨rfl, rfl⟩
  refine ⟨_, rfl, ?_⟩
  (repeat (first | refine panic_then ?_ | refine panic_block ?_))
  exact panic_body rfl (⟨Gave.no da rfl, (bx BK161.out), (bx BK999.out), lb⟩)
  try go_wp2
 rw [if_pos c63] at H; have c63b := be2 c63; clear c63
 by_cases c64 : (rd t171 x39_2) ≥ 0
 ·
  rw [if_pos c64] at H; have c64b0 := decide_eq_true c64; clear c64; have A65 := ak (show proof_need.f true 221 = some () from rfl); have H' := ak H; clear H; obtain ⟨p174, q174, ad174, e174, hx174_0⟩ := wq (Kd.at_int (Kd.R_reads' HO_37.out).2.2 x39_2); cases e174
  try go_wp2
  have n0_ := ak (Kd.R_drew HO_37.out); have n1_ := ak (blk_drew BK159.out); have n2_ := ak (blk_drew BK160.out); have n3_ := ak (blk_drew BK161.out); have n4_ := ak (blk_drew BK999.out); have n5_ := ak (below_drew1 HB.out); clear HO_37; clear BK159; clear BK160; clear BK161; clear BK999; clear HB; have HO_37 := n0_; have BK159 := n1_; have BK160 := n2_; have BK161 := n3_; have BK999 := n4_; have HB := n5_; clear n0_ n1_ n2_ n3_ n4_ n5_; obtain ⟨p177, q177, ad177, e177, hx177_0⟩ := wq (Kd.at_int HR1_1.out x39_2); have hw177_0 := hx177_0; cases e177
  (try replace hx177_0 := hbc HB hx177_0)
  refine stC 29 [] (cX (bc0 BK160) (cX (bc1 BK160) (cX (bc2 BK160) (cY (hbc HB hw177_0))))) proof_Cheapest_1.tab10 proof_Cheapest_1.bits10 fun hHeld HT_ HW_ => ?_
  generalize wr.drew = w66 at HO_37 BK159 BK160 BK161 BK999 HB hx177_0 hHeld ⊢
  refine pv HT_ 0 44 ?_; refine pv HT_ 1 45 ?_; refine pv HT_ 2 46 ?_; refine pv HT_ 3 47 ?_; refine pv HT_ 5 49 ?_; refine tv HT_ HW_ hHeld 4 48 ?_; refine pv HT_ 6 50 ?_; refine tv HT_ HW_ hHeld 7 51 ?_; refine pv HT_ 8 52 ?_; refine pv HT_ 9 53 ?_; refine pv HT_ 10 54 ?_; refine pv HT_ 11 55 ?_; refine pv HT_ 12 56 ?_; refine pv HT_ 13 57 ?_; refine pu HT_ 14 58 ?_; refine pu HT_ 15 59 ?_; refine pu HT_ 16 60 ?_; refine pu HT_ 17 61 ?_; refine pu HT_ 18 62 ?_; refine pu HT_ 19 63 ?_; refine pu HT_ 20 64 ?_; refine pu HT_ 21 65 ?_; refine pu HT_ 22 66 ?_; refine pu HT_ 23 67 ?_; refine pu HT_ 24 68 ?_; refine pu HT_ 25 69 ?_; refine pv HT_ 26 70 ?_; refine pv HT_ 27 71 ?_
  refine one_ (i := 28) (N := some 72) #[T, T, T, T, T, T, T, T, T, T, T, T, T, T, T, T, T, T, T, T, T, T, T, T, T, T, T, T, T] rfl rfl (one_of HT_.out (by kernel_rfl)) (by decide) (fun K hK => ?_)
  refine goes_ Try.func51 (by kernel_rfl) rfl #[.bool true, .int .i64 221] (by rfl) rfl rfl (by (try simp only [List.map_toArray, List.map_cons, List.map_nil]); first | done | rfl | (simp only [List.length_drop, List.length_take]; rfl)) ?_
  with_reducible refine (proof_need.calls true 221  _ A65.out).mono ?_
  rintro e w' ⟨rfl, ⟨nd, rfl⟩⟩
  refine ⟨_, rfl, ?_⟩
  refine hK.out _ _ ⟨(blk_cell BK160.out 0).trans rfl, (blk_cell BK160.out 1).trans rfl, (blk_cell BK160.out 2).trans rfl, (hbc HB hw177_0)⟩ (fun hHeld => ?_)
  clear hK K
  refine norm_ (a' := ?_) ?_ ?_
  rotate_left
  ·
   show Act.put _ (some 72) _ = _
   simp only [Act.put, sA, sZ, sS, i64_w, i32_w]
   rfl
  refine done_ (done_of HT_.out (by kernel_rfl)) ?_
  try go_wp2
  go_roundg k2
  case measure => have := HK1.out; have := HK2.out; omega
  case rel => exact ⟨(wrap64 (x39_2 + 1)), sr, H', ⟨by have := HK1.out; have := HK2.out; omega⟩, ⟨rx HO_37.out⟩, xb BK159, xb BK160, xb BK161, xb BK999, ⟨lb⟩⟩
 rw [if_neg c64] at H; have c64b0 := decide_eq_false c64; clear c64; replace H := ifd H; obtain ⟨c67b0, H⟩ := H
 by_cases c68 : (rd l1_1 x39_2) = ((rd_T98 l0_1 x39_2).f2)
 rotate_left
 ·
  rw [if_neg c68] at H; have c68b := bn2 c68
  simp only [Option.some.injEq, Prod.mk.injEq] at H
  obtain ⟨rfl, rfl⟩ := H; obtain ⟨p174, q174, ad174, e174, hx174_0⟩ := wq (Kd.at_int (Kd.R_reads' HO_37.out).2.2 x39_2); cases e174
  try go_wp2
  have n0_ := ak (Kd.R_drew HO_37.out); have n1_ := ak (blk_drew BK159.out); have n2_ := ak (blk_drew BK160.out); have n3_ := ak (blk_drew BK161.out); have n4_ := ak (blk_drew BK999.out); have n5_ := ak (below_drew1 HB.out); clear HO_37; clear BK159; clear BK160; clear BK161; clear BK999; clear HB; have HO_37 := n0_; have BK159 := n1_; have BK160 := n2_; have BK161 := n3_; have BK999 := n4_; have HB := n5_; clear n0_ n1_ n2_ n3_ n4_ n5_; obtain ⟨p177, q177, ad177, e177, hx177_0⟩ := wq (Kd.at_int HR1_1.out x39_2); have hw177_0 := hx177_0; cases e177
  (try replace hx177_0 := hbc HB hx177_0); obtain ⟨p178, q178, ad178, e178, hx178_0⟩ := wq (Kd.at_int HR1_1.out x39_2); have hw178_0 := hx178_0
  obtain rfl : ad177 = ad178 := (by injection e178)
  (try replace hx178_0 := hbc HB hx178_0); obtain ⟨p179, q179, ad179, e179, hx179_0, hx179_1, hx179_2, hx179_3⟩ := wq (at_T98 HR0_1.out x39_2); have hw179_3 := hx179_3; have hw179_2 := hx179_2; have hw179_1 := hx179_1; have hw179_0 := hx179_0; cases e179
  (try replace hx179_0 := hbc HB hx179_0)
  (try replace hx179_1 := hbc HB hx179_1)
  (try replace hx179_2 := hbc HB hx179_2)
  (try replace hx179_3 := hbc HB hx179_3)
  refine stC 29 [] (cX (bc0 BK160) (cX (bc1 BK160) (cX (bc2 BK160) (cX (bc0 BK159) (cX (bc1 BK159) (cX (hbc HB hw177_0) (cX (hbc HB hw178_0) (cX (hbc HB hw179_0) (cX (hbc HB hw179_1) (cX (hbc HB hw179_2) (cY (hbc HB hw179_3)))))))))))) proof_Cheapest_1.tab10 proof_Cheapest_1.bits10 fun hHeld HT_ HW_ => ?_
  generalize wr.drew = w71 at HO_37 BK159 BK160 BK161 BK999 HB hx177_0 hx178_0 hx179_0 hx179_1 hx179_2 hx179_3 hHeld ⊢
  refine pv HT_ 0 44 ?_; refine pv HT_ 1 45 ?_; refine pv HT_ 2 46 ?_; refine pv HT_ 3 47 ?_; refine pv HT_ 5 49 ?_; refine tv HT_ HW_ hHeld 4 48 ?_; refine pv HT_ 6 50 ?_; refine tv HT_ HW_ hHeld 7 51 ?_; refine pv HT_ 8 52 ?_; refine pv HT_ 9 53 ?_; refine pv HT_ 10 54 ?_; refine pv HT_ 11 55 ?_; refine pv HT_ 12 56 ?_; refine pv HT_ 13 57 ?_; refine pv HT_ 14 58 ?_; refine pv HT_ 16 60 ?_; refine pv HT_ 19 63 ?_; refine pv HT_ 21 65 ?_; refine tv HT_ HW_ hHeld 15 59 ?_; refine pv HT_ 17 61 ?_; refine tv HT_ HW_ hHeld 18 62 ?_; refine tv HT_ HW_ hHeld 20 64 ?_; refine pv HT_ 22 66 ?_; refine pv HT_ 23 67 ?_; refine tv HT_ HW_ hHeld 24 68 ?_; refine pv HT_ 25 69 ?_; refine pv HT_ 26 70 ?_; refine pv HT_ 27 71 ?_
  refine one_ (i := 28) (N := some 72) #[T, T, T, T, T, T, T, T, T, T, T, T, T, T, T, T, T, T, T, T, T, T, T, T, T, T, T, T, T] rfl rfl (one_of HT_.out (by kernel_rfl)) (by decide) (fun K hK => ?_)
  refine panics_ Try.func51 (by kernel_rfl) rfl #[.bool false, .int .i64 221] (by rfl) rfl rfl (by (try simp only [List.map_toArray, List.map_cons, List.map_nil]); first | done | rfl | (simp only [List.length_drop, List.length_take]; rfl)) ?_
  refine (proof_need.bad 221 _).mono ?_
  rintro e w' ⟨rfl, rfl⟩
  refine ⟨_, rfl, ?_⟩
  (repeat (first | refine panic_then ?_ | refine panic_block ?_))
  exact panic_body rfl (⟨Gave.no da rfl, (bx BK161.out), (bx BK999.out), lb⟩)
  try go_wp2
 rw [if_pos c68] at H; have c68b := be2 c68; clear c68; have A69 := ak (show proof_need.f true 221 = some () from rfl); have H' := ak H; clear H; obtain ⟨p174, q174, ad174, e174, hx174_0⟩ := wq (Kd.at_int (Kd.R_reads' HO_37.out).2.2 x39_2); cases e174
 try go_wp2
 have n0_ := ak (Kd.R_drew HO_37.out); have n1_ := ak (blk_drew BK159.out); have n2_ := ak (blk_drew BK160.out); have n3_ := ak (blk_drew BK161.out); have n4_ := ak (blk_drew BK999.out); have n5_ := ak (below_drew1 HB.out); clear HO_37; clear BK159; clear BK160; clear BK161; clear BK999; clear HB; have HO_37 := n0_; have BK159 := n1_; have BK160 := n2_; have BK161 := n3_; have BK999 := n4_; have HB := n5_; clear n0_ n1_ n2_ n3_ n4_ n5_; obtain ⟨p177, q177, ad177, e177, hx177_0⟩ := wq (Kd.at_int HR1_1.out x39_2); have hw177_0 := hx177_0; cases e177
 (try replace hx177_0 := hbc HB hx177_0); obtain ⟨p178, q178, ad178, e178, hx178_0⟩ := wq (Kd.at_int HR1_1.out x39_2); have hw178_0 := hx178_0
 obtain rfl : ad177 = ad178 := (by injection e178)
 (try replace hx178_0 := hbc HB hx178_0); obtain ⟨p179, q179, ad179, e179, hx179_0, hx179_1, hx179_2, hx179_3⟩ := wq (at_T98 HR0_1.out x39_2); have hw179_3 := hx179_3; have hw179_2 := hx179_2; have hw179_1 := hx179_1; have hw179_0 := hx179_0; cases e179
 (try replace hx179_0 := hbc HB hx179_0)
 (try replace hx179_1 := hbc HB hx179_1)
 (try replace hx179_2 := hbc HB hx179_2)
 (try replace hx179_3 := hbc HB hx179_3)
 refine stC 29 [] (cX (bc0 BK160) (cX (bc1 BK160) (cX (bc2 BK160) (cX (bc0 BK159) (cX (bc1 BK159) (cX (hbc HB hw177_0) (cX (hbc HB hw178_0) (cX (hbc HB hw179_0) (cX (hbc HB hw179_1) (cX (hbc HB hw179_2) (cY (hbc HB hw179_3)))))))))))) proof_Cheapest_1.tab10 proof_Cheapest_1.bits10 fun hHeld HT_ HW_ => ?_
 generalize wr.drew = w70 at HO_37 BK159 BK160 BK161 BK999 HB hx177_0 hx178_0 hx179_0 hx179_1 hx179_2 hx179_3 hHeld ⊢
 refine pv HT_ 0 44 ?_; refine pv HT_ 1 45 ?_; refine pv HT_ 2 46 ?_; refine pv HT_ 3 47 ?_; refine pv HT_ 5 49 ?_; refine tv HT_ HW_ hHeld 4 48 ?_; refine pv HT_ 6 50 ?_; refine tv HT_ HW_ hHeld 7 51 ?_; refine pv HT_ 8 52 ?_; refine pv HT_ 9 53 ?_; refine pv HT_ 10 54 ?_; refine pv HT_ 11 55 ?_; refine pv HT_ 12 56 ?_; refine pv HT_ 13 57 ?_; refine pv HT_ 14 58 ?_; refine pv HT_ 16 60 ?_; refine pv HT_ 19 63 ?_; refine pv HT_ 21 65 ?_; refine tv HT_ HW_ hHeld 15 59 ?_; refine pv HT_ 17 61 ?_; refine tv HT_ HW_ hHeld 18 62 ?_; refine tv HT_ HW_ hHeld 20 64 ?_; refine pv HT_ 22 66 ?_; refine pv HT_ 23 67 ?_; refine tv HT_ HW_ hHeld 24 68 ?_; refine pv HT_ 25 69 ?_; refine pv HT_ 26 70 ?_; refine pv HT_ 27 71 ?_
 refine one_ (i := 28) (N := some 72) #[T, T, T, T, T, T, T, T, T, T, T, T, T, T, T, T, T, T, T, T, T, T, T, T, T, T, T, T, T] rfl rfl (one_of HT_.out (by kernel_rfl)) (by decide) (fun K hK => ?_)
 refine goes_ Try.func51 (by kernel_rfl) rfl #[.bool true, .int .i64 221] (by rfl) rfl rfl (by (try simp only [List.map_toArray, List.map_cons, List.map_nil]); first | done | rfl | (simp only [List.length_drop, List.length_take]; rfl)) ?_
 with_reducible refine (proof_need.calls true 221  _ A69.out).mono ?_
 rintro e w' ⟨rfl, ⟨nd, rfl⟩⟩
 refine ⟨_, rfl, ?_⟩
 refine hK.out _ _ ⟨(blk_cell BK160.out 0).trans rfl, (blk_cell BK160.out 1).trans rfl, (blk_cell BK160.out 2).trans rfl, (blk_cell BK159.out 0).trans rfl, (blk_cell BK159.out 1).trans rfl, (hbc HB hw177_0), (hbc HB hw178_0), (hbc HB hw179_0), (hbc HB hw179_1), (hbc HB hw179_2), (hbc HB hw179_3)⟩ (fun hHeld => ?_)
 clear hK K
 refine norm_ (a' := ?_) ?_ ?_
 rotate_left
 ·
  show Act.put _ (some 72) _ = _
  simp only [Act.put, sA, sZ, sS, i64_w, i32_w]
  rfl
 refine done_ (done_of HT_.out (by kernel_rfl)) ?_
 try go_wp2
 go_roundg k2
 case measure => have := HK1.out; have := HK2.out; omega
 case rel => exact ⟨(wrap64 (x39_2 + 1)), sr, H', ⟨by have := HK1.out; have := HK2.out; omega⟩, ⟨rx HO_37.out⟩, xb BK159, xb BK160, xb BK161, xb BK999, ⟨lb⟩⟩
end Go.Proofs.Ytkdoihcjhccliaa.Q
