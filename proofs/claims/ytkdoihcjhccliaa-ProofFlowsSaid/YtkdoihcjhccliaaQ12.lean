import Derived.Test.YtkdoihcjhccliaaQ0
import Derived.Test.YtkdoihcjhccliaaQ3
import Derived.Test.YtkdoihcjhccliaaQ5
import Derived.Test.YtkdoihcjhccliaaQ6
import Derived.Test.YtkdoihcjhccliaaQ9
import Derived.Test.YtkdoihcjhccliaaQ10
import Derived.Test.YtkdoihcjhccliaaQ11
namespace Go.Proofs.Ytkdoihcjhccliaa.Q
open Go.RowKit Go.Proofs.YtkdoihcjhccliaaW.PrintWords Go.Proofs.YtkdoihcjhccliaaW.PrintLast Go.Proofs.YtkdoihcjhccliaaW.PrintMore
attribute [local go_sem] max2_int min2_int max_two min_two max_three min_three max_four min_four   -- for this text's walks alone
set_option linter.unusedVariables false
set_option linter.unusedSimpArgs false

set_option maxHeartbeats 8000000 in
set_option maxRecDepth 100000 in
theorem proof_Cheapest_1.calls (k : Nat) (a0_0 : Int) (A0_1 : Option Addr) (c0_1 : Nat) (l0_1 : List (S98)) (A1_0 : Option Addr) (c1_0 : Nat) (l1_0 : List Int) (A1_1 : Option Addr) (c1_1 : Nat) (l1_1 : List Int) (A1_2 : Option Addr) (c1_2 : Nat) (l1_2 : List Int) (a2 : Int) (r1 : Int) (r2 : Int) (w wc0 : World) (gb159 gb160 gb161 gbx : Nat) (hr0_1 : Kd.C k98 w A0_1 l0_1.length l0_1) (hc0_1 : l0_1.length ≤ c0_1) (hr1_0 : Kd.C (Kd.int .i64) w A1_0 l1_0.length l1_0) (hc1_0 : l1_0.length ≤ c1_0) (hr1_1 : Kd.C (Kd.int .i64) w A1_1 l1_1.length l1_1) (hc1_1 : l1_1.length ≤ c1_1) (hr1_2 : Kd.C (Kd.int .i64) w A1_2 l1_2.length l1_2) (hc1_2 : l1_2.length ≤ c1_2) (hB : Below w.heap.size w wc0) (hb0_ : wc0.heap[gb159]? = some (.cells #[.int .i64 a0_0, .slice A0_1 l0_1.length c0_1] 24 (0, 0))) (hg0_ : w.heap.size ≤ gb159) (hb1_ : wc0.heap[gb160]? = some (.cells #[.slice A1_0 l1_0.length c1_0, .slice A1_1 l1_1.length c1_1, .slice A1_2 l1_2.length c1_2] 44 (0, 0))) (hg1_ : w.heap.size ≤ gb160) (hb2_ : wc0.heap[gb161]? = some (.cells #[.int .i64 a2] 2 (0, 0))) (hg2_ : w.heap.size ≤ gb161) (hb3_ : wc0.heap[gbx]? = some (.cells #[.int .i64 0] 30 (0, 0))) (hg3_ : w.heap.size ≤ gbx) (hn0_1_ : gb159 ≠ gb160) (hn0_2_ : gb159 ≠ gb161) (hn0_3_ : gb159 ≠ gbx) (hn1_2_ : gb160 ≠ gb161) (hn1_3_ : gb160 ≠ gbx) (hn2_3_ : gb161 ≠ gbx) (h : proof_Cheapest_1.f k a0_0 l0_1 l1_0 l1_1 l1_2 a2 = some (r1, r2)) :
    Calls Try.prog 60 #[.pointer (some ⟨gb159, 0, none⟩), .pointer (some ⟨gb160, 0, none⟩), .pointer (some ⟨gb161, 0, none⟩)] wc0 fun e w' => Gave r1 (e = .returned (.tuple #[])) (e = gave r1) ∧ w'.heap[gb161]? = some (.cells #[.int .i64 r2] 2 (0, 0)) ∧ w'.heap[gbx]? = some (.cells #[.int .i64 0] 30 (0, 0)) ∧ Below w.heap.size w w' := by
 have hu24 := Try.underlying24; have hu98 := Try.underlying98; have HR0_1 := ak hr0_1; have HC0_1 := ak hc0_1; clear hr0_1 hc0_1; have HR1_0 := ak hr1_0; have HC1_0 := ak hc1_0; clear hr1_0 hc1_0; have HR1_1 := ak hr1_1; have HC1_1 := ak hc1_1; clear hr1_1 hc1_1; have HR1_2 := ak hr1_2; have HC1_2 := ak hc1_2; clear hr1_2 hc1_2; have HB := ak hB; clear hB; have BK159 := ak hb0_; have GW159 := ak hg0_; have GE159 := ak hg0_; have BK160 := ak hb1_; have GW160 := ak hg1_; have GE160 := ak hg1_; have BK161 := ak hb2_; have GW161 := ak hg2_; have GE161 := ak hg2_; have BK999 := ak hb3_; have GW999 := ak hg3_; have GE999 := ak hg3_; have NB159_160 := ak hn0_1_; have NB160_159 := ak hn0_1_.symm; have NB159_161 := ak hn0_2_; have NB161_159 := ak hn0_2_.symm; have NB159_999 := ak hn0_3_; have NB999_159 := ak hn0_3_.symm; have NB160_161 := ak hn1_2_; have NB161_160 := ak hn1_2_.symm; have NB160_999 := ak hn1_3_; have NB999_160 := ak hn1_3_.symm; have NB161_999 := ak hn2_3_; have NB999_161 := ak hn2_3_.symm; clear hb0_ hg0_ hb1_ hg1_ hb2_ hg2_ hb3_ hg3_ hn0_1_ hn0_2_ hn0_3_ hn1_2_ hn1_3_ hn2_3_
 have H : ((proof_right.f k a0_0 l0_1).bind fun t162 => (if t162 = 0 then ((proof_supplied.f k a0_0 l0_1 l1_0).bind fun t163 => (if t163 = 0 then ((proof_carried.f k a0_0 l0_1 l1_1).bind fun bt164 => (if bt164.1 = 0 then (proof_Cheapest_1.l0 k bt164.2 (bt164.2.length : Int) 0 a0_0 l0_1 l1_0 l1_1 l1_2 a2) else (some (bt164.1, a2)))) else (some (t163, a2)))) else (some (t162, a2)))) = some (r1, r2) := h; clear h; replace H := Option.bind_eq_some_iff.mp H; obtain ⟨t162, A40, H⟩ := H; replace H : (if t162 = 0 then ((proof_supplied.f k a0_0 l0_1 l1_0).bind fun t163 => (if t163 = 0 then ((proof_carried.f k a0_0 l0_1 l1_1).bind fun bt164 => (if bt164.1 = 0 then (proof_Cheapest_1.l0 k bt164.2 (bt164.2.length : Int) 0 a0_0 l0_1 l1_0 l1_1 l1_2 a2) else (some (bt164.1, a2)))) else (some (t163, a2)))) else (some (t162, a2))) = some (r1, r2) := H
 by_cases c5 : t162 = 0
 ·
  subst c5
  have H1 : ((proof_supplied.f k a0_0 l0_1 l1_0).bind fun t163 => (if t163 = 0 then ((proof_carried.f k a0_0 l0_1 l1_1).bind fun bt164 => (if bt164.1 = 0 then (proof_Cheapest_1.l0 k bt164.2 (bt164.2.length : Int) 0 a0_0 l0_1 l1_0 l1_1 l1_2 a2) else (some (bt164.1, a2)))) else (some (t163, a2)))) = some (r1, r2) := by rw [if_pos rfl] at H; exact H
  clear H; have H := H1; clear H1; have A4 := ak A40; clear A40; replace H := Option.bind_eq_some_iff.mp H; obtain ⟨t163, A60, H⟩ := H; replace H : (if t163 = 0 then ((proof_carried.f k a0_0 l0_1 l1_1).bind fun bt164 => (if bt164.1 = 0 then (proof_Cheapest_1.l0 k bt164.2 (bt164.2.length : Int) 0 a0_0 l0_1 l1_0 l1_1 l1_2 a2) else (some (bt164.1, a2)))) else (some (t163, a2))) = some (r1, r2) := H
  by_cases c7 : t163 = 0
  ·
   subst c7
   have H1 : ((proof_carried.f k a0_0 l0_1 l1_1).bind fun bt164 => (if bt164.1 = 0 then (proof_Cheapest_1.l0 k bt164.2 (bt164.2.length : Int) 0 a0_0 l0_1 l1_0 l1_1 l1_2 a2) else (some (bt164.1, a2)))) = some (r1, r2) := by rw [if_pos rfl] at H; exact H
   clear H; have H := H1; clear H1; have A6 := ak A60; clear A60; replace H := Option.bind_eq_some_iff.mp H; obtain ⟨⟨t164, t165⟩, A80, H⟩ := H; replace H : (if t164 = 0 then (proof_Cheapest_1.l0 k t165 (t165.length : Int) 0 a0_0 l0_1 l1_0 l1_1 l1_2 a2) else (some (t164, a2))) = some (r1, r2) := H
   by_cases c9 : t164 = 0
   ·
    subst c9
    have H1 : (proof_Cheapest_1.l0 k t165 (t165.length : Int) 0 a0_0 l0_1 l1_0 l1_1 l1_2 a2) = some (r1, r2) := by rw [if_pos rfl] at H; exact H
    clear H; have H := H1; clear H1; have A8 := ak A80; clear A80; have H' := ak H; clear H; have hnb10 := NB159_160.out; have hnc10 := NB160_159.out; have hnb11 := NB159_161.out; have hnc11 := NB161_159.out; have hnb12 := NB159_999.out; have hnc12 := NB999_159.out; have hcz13_0 := bc0 BK159; have hcz13_1 := bc1 BK159; have hfz13_0 := bf BK159 0; have hfz13_1 := bf BK159 1
    go_enter Try.func60, Try.ntmps60
    go_wp2_with (first | ((with_reducible refine gate_callee (f := 50) rfl ?_); refine goesZ (some 10) rfl rfl Try.func50 (by kernel_rfl) rfl #[.agg #[.int .i64 a0_0, .slice A0_1 l0_1.length c0_1]] rfl ?_; (with_reducible refine (proof_right.ok k a0_0 _ _ l0_1  _ ?side1 ?side2 A4.out).mono ?_); (case side1 => exact Kd.C_below HR0_1.out lb); (case side2 => exact HC0_1.out); rintro e w14 ⟨rfl, hb⟩; refine ⟨_, rfl, ?_⟩; have n0_ := ak (blk_below (bx BK159.out) hb); have n1_ := ak (blk_below (bx BK160.out) hb); have n2_ := ak (blk_below (bx BK161.out) hb); have n3_ := ak (blk_below (g := gbx) (o := .cells #[.int .i64 0] 30 (0, 0)) (bx BK999.out) hb); have n4_ := ak (below_step lb hb); clear BK159; clear BK160; clear BK161; clear BK999; clear HB; have BK159 := n0_; have BK160 := n1_; have BK161 := n2_; have BK999 := n3_; have HB := n4_; clear n0_ n1_ n2_ n3_ n4_; (try clear hb); (try clear hb2); (try clear hk); (try clear hi); have hcz15_0 := bc0 BK159; have hcz15_1 := bc1 BK159; have hfz15_0 := bf BK159 0; have hfz15_1 := bf BK159 1; have hnb16 := NB160_161.out; have hnc16 := NB161_160.out; have hnb17 := NB160_999.out; have hnc17 := NB999_160.out; have hcz18_0 := bc0 BK160; have hcz18_1 := bc1 BK160; have hcz18_2 := bc2 BK160; have hfz18_0 := bf BK160 0; have hfz18_1 := bf BK160 1; have hfz18_2 := bf BK160 2) | ((with_reducible refine gate_callee (f := 61) rfl ?_); refine goesZ (some 14) rfl rfl Try.func61 (by kernel_rfl) rfl #[.agg #[.int .i64 a0_0, .slice A0_1 l0_1.length c0_1], .slice A1_0 l1_0.length c1_0] rfl ?_; (with_reducible refine (proof_supplied.ok k a0_0 _ _ l0_1 _ _ l1_0  _ ?side1 ?side2 ?side3 ?side4 A6.out).mono ?_); (case side1 => exact Kd.C_below HR0_1.out lb); (case side2 => exact HC0_1.out); (case side3 => exact Kd.C_below HR1_0.out lb); (case side4 => exact HC1_0.out); rintro e w19 ⟨rfl, hb⟩; refine ⟨_, rfl, ?_⟩; have n0_ := ak (blk_below (bx BK159.out) hb); have n1_ := ak (blk_below (bx BK160.out) hb); have n2_ := ak (blk_below (bx BK161.out) hb); have n3_ := ak (blk_below (g := gbx) (o := .cells #[.int .i64 0] 30 (0, 0)) (bx BK999.out) hb); have n4_ := ak (below_step lb hb); clear BK159; clear BK160; clear BK161; clear BK999; clear HB; have BK159 := n0_; have BK160 := n1_; have BK161 := n2_; have BK999 := n3_; have HB := n4_; clear n0_ n1_ n2_ n3_ n4_; (try clear hb); (try clear hb2); (try clear hk); (try clear hi); have hcz20_0 := bc0 BK159; have hcz20_1 := bc1 BK159; have hfz20_0 := bf BK159 0; have hfz20_1 := bf BK159 1; have hcz21_0 := bc0 BK160; have hcz21_1 := bc1 BK160; have hcz21_2 := bc2 BK160; have hfz21_0 := bf BK160 0; have hfz21_1 := bf BK160 1; have hfz21_2 := bf BK160 2) | ((with_reducible refine gate_callee (f := 52) rfl ?_); refine goesZ (some 18) rfl rfl Try.func52 (by kernel_rfl) rfl #[.agg #[.int .i64 a0_0, .slice A0_1 l0_1.length c0_1], .slice A1_1 l1_1.length c1_1] rfl ?_; (with_reducible refine (proof_carried.ok k a0_0 _ _ l0_1 _ _ l1_1 t165 _ ?side1 ?side2 ?side3 ?side4 A8.out).mono ?_); (case side1 => exact Kd.C_below HR0_1.out lb); (case side2 => exact HC0_1.out); (case side3 => exact Kd.C_below HR1_1.out lb); (case side4 => exact HC1_1.out); rintro e w22 ⟨v166, rfl, ho0, hb⟩; refine ⟨_, rfl, ?_⟩; have n0_ := ak (Kd.R_lower (Kd.R_newB ho0 (g := gb161) (o := .cells #[.int .i64 a2] 2 (0, 0)) (bx BK161.out)) (below_size lb)); have n1_ := ak (blk_below (bx BK159.out) hb); have n2_ := ak (blk_below (bx BK160.out) hb); have n3_ := ak (blk_below (bx BK161.out) hb); have n4_ := ak (blk_below (g := gbx) (o := .cells #[.int .i64 0] 30 (0, 0)) (bx BK999.out) hb); have n5_ := ak (below_step lb hb); clear BK159; clear BK160; clear BK161; clear BK999; clear HB; have HO167 := n0_; have BK159 := n1_; have BK160 := n2_; have BK161 := n3_; have BK999 := n4_; have HB := n5_; clear n0_ n1_ n2_ n3_ n4_ n5_; (try clear hb); (try clear hb2); (try clear hk); (try clear hi); (try clear ho0); obtain ⟨Ao23, co23, eo23⟩ := Kd.R_slice HO167.out; subst eo23))
    go_loopg [20] k (fun kq v20 w' => ∃ (x20_1 : Int), v20 = .int .i64 x20_1 ∧ Aside0 (proof_Cheapest_1.l0 kq t165 (t165.length : Int) x20_1 a0_0 l0_1 l1_0 l1_1 l1_2 a2 = some (r1, r2)) ∧ Aside0 (kq ≤ k) ∧ Aside0 (Kd.R (Kd.int .i64) 2 w' w.heap.size (fun k_ => k_ ≠ gb161) (.slice Ao23 t165.length co23) t165) ∧ Aside0 (w'.heap[gb159]? = some (.cells #[.int .i64 a0_0, (.slice A0_1 l0_1.length c0_1)] 24 (0, 0))) ∧ Aside0 (w'.heap[gb160]? = some (.cells #[(.slice A1_0 l1_0.length c1_0), (.slice A1_1 l1_1.length c1_1), (.slice A1_2 l1_2.length c1_2)] 44 (0, 0))) ∧ Aside0 (w'.heap[gb161]? = some (.cells #[.int .i64 a2] 2 (0, 0))) ∧ Aside0 (w'.heap[gbx]? = some (.cells #[.int .i64 0] 30 (0, 0))) ∧ Aside0 (Below w.heap.size w w'))
    case atStart => exact ⟨(0), (by first | rfl | (simp [*]; done)), H', ⟨Nat.le_refl _⟩, ⟨by exact rx (Kd.R_mono HO167.out (fun _ hk => hk.2))⟩, ⟨bx BK159.out⟩, ⟨bx BK160.out⟩, ⟨bx BK161.out⟩, ⟨bx BK999.out⟩, ⟨lb⟩⟩
    case round =>
     clear H'; obtain ⟨x20_1, rfl, HA, HK1, HO_18, BK159, BK160, BK161, BK999, HB⟩ := hrel
     cases gk with
     | zero => exact absurd HA.out (by simp [proof_Cheapest_1.l0])
     | succ k1 =>
      have H := HA.out; clear HA
      simp only [proof_Cheapest_1.l0] at H
      by_cases c24 : x20_1 < (t165.length : Int)
      ·
       rw [if_pos c24] at H; have c24b0 := decide_eq_true c24; clear c24; replace H := ifd H; obtain ⟨c25b0, H⟩ := H; replace H := ifd H; obtain ⟨c26b0, H⟩ := H; replace H := ifd H; obtain ⟨c27b0, H⟩ := H
       by_cases c28 : (rd t165 x20_1) = (rd l1_0 x20_1)
       ·
        rw [if_pos c28] at H; have c28b0 : ((rd t165 x20_1) == (rd l1_0 x20_1)) = true := beq_iff_eq.mpr c28; have c28b1 : ((rd t165 x20_1) != (rd l1_0 x20_1)) = false := bne_eq_false_iff_eq.mpr c28; clear c28; have A29 := ak (show proof_need.f true 221 = some () from rfl); have H' := ak H; clear H; have p168 : 0 ≤ (x20_1 : Int) := oda; have q168 : x20_1 < (t165.length : Int) := oda; obtain ⟨ad168, e168, hx168_0⟩ := Kd.at_int (Kd.R_reads' HO_18.out).2.2 x20_1 p168 q168; cases e168; replace p168 := eq_true p168; replace q168 := eq_true q168; have hnb30 := NB160_159.out; have hnc30 := NB159_160.out; have hnb31 := NB160_161.out; have hnc31 := NB161_160.out; have hnb32 := NB160_999.out; have hnc32 := NB999_160.out; have hcz33_0 := bc0 BK160; have hcz33_1 := bc1 BK160; have hcz33_2 := bc2 BK160; have hfz33_0 := bf BK160 0; have hfz33_1 := bf BK160 1; have hfz33_2 := bf BK160 2; have p169 : 0 ≤ (x20_1 : Int) := oda; have q169 : x20_1 < (l1_0.length : Int) := oda; obtain ⟨ad169, e169, hx169_0⟩ := Kd.at_int HR1_0.out x20_1 p169 q169; cases e169
        (try replace hx169_0 := hbc HB hx169_0)
        replace p169 := eq_true p169; replace q169 := eq_true q169
        go_wp2_with (first | ((with_reducible refine gate_callee (f := 51) rfl ?_); refine goesZ (some 32) rfl rfl Try.func51 (by kernel_rfl) rfl #[.bool true, .int .i64 221] rfl ?_; (with_reducible refine (proof_need.calls true 221  _ A29.out).mono ?_); rintro e w' ⟨rfl, ⟨nd, rfl⟩⟩; refine ⟨_, rfl, ?_⟩))
        go_roundg k1
        case measure => have := HK1.out; omega
        case rel => exact ⟨(wrap64 (x20_1 + 1)), (by first | rfl | (simp [*]; done)), H', ⟨by have := HK1.out; omega⟩, ⟨rx HO_18.out⟩, ⟨bx BK159.out⟩, ⟨bx BK160.out⟩, ⟨bx BK161.out⟩, ⟨bx BK999.out⟩, ⟨lb⟩⟩
       ·
        rw [if_neg c28] at H; have c28b0 : ((rd t165 x20_1) == (rd l1_0 x20_1)) = false := beq_eq_false_iff_ne.mpr c28; have c28b1 : ((rd t165 x20_1) != (rd l1_0 x20_1)) = true := bne_iff_ne.mpr c28
        simp only [Option.some.injEq, Prod.mk.injEq] at H
        obtain ⟨rfl, rfl⟩ := H; have p168 : 0 ≤ (x20_1 : Int) := oda; have q168 : x20_1 < (t165.length : Int) := oda; obtain ⟨ad168, e168, hx168_0⟩ := Kd.at_int (Kd.R_reads' HO_18.out).2.2 x20_1 p168 q168; cases e168; replace p168 := eq_true p168; replace q168 := eq_true q168; have hnb34 := NB160_159.out; have hnc34 := NB159_160.out; have hnb35 := NB160_161.out; have hnc35 := NB161_160.out; have hnb36 := NB160_999.out; have hnc36 := NB999_160.out; have hcz37_0 := bc0 BK160; have hcz37_1 := bc1 BK160; have hcz37_2 := bc2 BK160; have hfz37_0 := bf BK160 0; have hfz37_1 := bf BK160 1; have hfz37_2 := bf BK160 2; have p169 : 0 ≤ (x20_1 : Int) := oda; have q169 : x20_1 < (l1_0.length : Int) := oda; obtain ⟨ad169, e169, hx169_0⟩ := Kd.at_int HR1_0.out x20_1 p169 q169; cases e169
        (try replace hx169_0 := hbc HB hx169_0)
        replace p169 := eq_true p169; replace q169 := eq_true q169
        go_wp2_with (first | ((with_reducible refine gate_callee (f := 51) rfl ?_); refine panicsL_ (some 32) rfl rfl Try.func51 (by kernel_rfl) rfl #[.bool false, .int .i64 221] rfl (by (try simp only [List.map_toArray, List.map_cons, List.map_nil]); first | done | rfl | (simp only [List.length_drop, List.length_take]; rfl)) ?_; refine (proof_need.bad 221 _).mono ?_; rintro e w' ⟨rfl, rfl⟩; refine ⟨_, rfl, ?_⟩; (repeat (first | refine panic_then ?_ | refine panic_block ?_)); exact panic_body rfl (⟨Gave.no (by first | decide | assumption | (simp_all; done)) rfl, (bx BK161.out), (bx BK999.out), lb⟩)))
      ·
       rw [if_neg c24] at H; have c24b0 : decide (x20_1 < (t165.length : Int)) = false := decide_eq_false c24; clear c24; replace H := Option.bind_eq_some_iff.mp H; obtain ⟨⟨t170, t171⟩, A380, H⟩ := H; replace H : (if t170 = 0 then (proof_Cheapest_1.l1 k1 t171 (t171.length : Int) 0 a0_0 l0_1 l1_0 l1_1 l1_2 a2) else (some (t170, a2))) = some (r1, r2) := H
       by_cases c39 : t170 = 0
       ·
        subst c39
        have H1 : (proof_Cheapest_1.l1 k1 t171 (t171.length : Int) 0 a0_0 l0_1 l1_0 l1_1 l1_2 a2) = some (r1, r2) := by rw [if_pos rfl] at H; exact H
        clear H; have H := H1; clear H1; have A38 := ak A380; clear A380; have H' := ak H; clear H; have hnb40 := NB159_160.out; have hnc40 := NB160_159.out; have hnb41 := NB159_161.out; have hnc41 := NB161_159.out; have hnb42 := NB159_999.out; have hnc42 := NB999_159.out; have hcz43_0 := bc0 BK159; have hcz43_1 := bc1 BK159; have hfz43_0 := bf BK159 0; have hfz43_1 := bf BK159 1; have hnb44 := NB160_161.out; have hnc44 := NB161_160.out; have hnb45 := NB160_999.out; have hnc45 := NB999_160.out; have hcz46_0 := bc0 BK160; have hcz46_1 := bc1 BK160; have hcz46_2 := bc2 BK160; have hfz46_0 := bf BK160 0; have hfz46_1 := bf BK160 1; have hfz46_2 := bf BK160 2
        go_wp2_with (first | ((with_reducible refine gate_callee (f := 62) rfl ?_); refine goesZ (some 37) rfl rfl Try.func62 (by kernel_rfl) rfl #[.agg #[.int .i64 a0_0, .slice A0_1 l0_1.length c0_1], .slice A1_2 l1_2.length c1_2, .int .i64 1] rfl ?_; (with_reducible refine (proof_reduced.ok k1 a0_0 _ _ l0_1 _ _ l1_2 1 t171 _ ?side1 ?side2 ?side3 ?side4 A38.out).mono ?_); (case side1 => exact Kd.C_below HR0_1.out lb); (case side2 => exact HC0_1.out); (case side3 => exact Kd.C_below HR1_2.out lb); (case side4 => exact HC1_2.out); rintro e w47 ⟨v172, rfl, ho0, hb⟩; refine ⟨_, rfl, ?_⟩; have n0_ := ak (Kd.R_elder' (rx HO_18.out) (Kd.R_base ho0) hb); have n1_ := ak (Kd.R_lower (Kd.R_newB (Kd.R_new' ho0 (Kd.R_lt (rx HO_18.out))) (g := gb161) (o := .cells #[.int .i64 a2] 2 (0, 0)) (bx BK161.out)) (below_size lb)); have n2_ := ak (blk_below (bx BK159.out) hb); have n3_ := ak (blk_below (bx BK160.out) hb); have n4_ := ak (blk_below (bx BK161.out) hb); have n5_ := ak (blk_below (g := gbx) (o := .cells #[.int .i64 0] 30 (0, 0)) (bx BK999.out) hb); have n6_ := ak (below_step lb hb); clear HO_18; clear BK159; clear BK160; clear BK161; clear BK999; clear HB; have HO_18 := n0_; have HO173 := n1_; have BK159 := n2_; have BK160 := n3_; have BK161 := n4_; have BK999 := n5_; have HB := n6_; clear n0_ n1_ n2_ n3_ n4_ n5_ n6_; (try clear hb); (try clear hb2); (try clear hk); (try clear hi); (try clear ho0); obtain ⟨Ao48, co48, eo48⟩ := Kd.R_slice HO173.out; subst eo48))
        go_loopg [39] k1 (fun kq v39 w' => ∃ (x39_2 : Int), v39 = .int .i64 x39_2 ∧ Aside0 (proof_Cheapest_1.l1 kq t171 (t171.length : Int) x39_2 a0_0 l0_1 l1_0 l1_1 l1_2 a2 = some (r1, r2)) ∧ Aside0 (kq ≤ k1) ∧ Aside0 (Kd.R (Kd.int .i64) 2 w' w.heap.size (fun k_ => k_ ≠ gb161) (.slice Ao48 t171.length co48) t171) ∧ Aside0 (w'.heap[gb159]? = some (.cells #[.int .i64 a0_0, (.slice A0_1 l0_1.length c0_1)] 24 (0, 0))) ∧ Aside0 (w'.heap[gb160]? = some (.cells #[(.slice A1_0 l1_0.length c1_0), (.slice A1_1 l1_1.length c1_1), (.slice A1_2 l1_2.length c1_2)] 44 (0, 0))) ∧ Aside0 (w'.heap[gb161]? = some (.cells #[.int .i64 a2] 2 (0, 0))) ∧ Aside0 (w'.heap[gbx]? = some (.cells #[.int .i64 0] 30 (0, 0))) ∧ Aside0 (Below w.heap.size w w'))
        case atStart => exact ⟨(0), (by first | rfl | (simp [*]; done)), H', ⟨Nat.le_refl _⟩, ⟨by exact rx (Kd.R_mono HO173.out (fun _ hk => hk.2))⟩, ⟨bx BK159.out⟩, ⟨bx BK160.out⟩, ⟨bx BK161.out⟩, ⟨bx BK999.out⟩, ⟨lb⟩⟩
        case round =>
         clear H'; obtain ⟨x39_2, rfl, HA, HK2, HO_37, BK159, BK160, BK161, BK999, HB⟩ := hrel
         cases gk with
         | zero => exact absurd HA.out (by simp [proof_Cheapest_1.l1])
         | succ k2 =>
          have H := HA.out; clear HA
          simp only [proof_Cheapest_1.l1] at H
          by_cases c49 : x39_2 < (t171.length : Int)
          ·
           rw [if_pos c49] at H; have c49b0 := decide_eq_true c49; clear c49; replace H := ifd H; obtain ⟨c50b0, H⟩ := H; replace H := ifd H; obtain ⟨c51b0, H⟩ := H
           by_cases c52 : (rd t171 x39_2) ≤ 0
           ·
            rw [if_pos c52] at H; have c52b0 := decide_eq_true c52; clear c52
            by_cases c53 : (rd t171 x39_2) ≥ 0
            ·
             rw [if_pos c53] at H; have c53b0 := decide_eq_true c53; clear c53; have A54 := ak (show proof_need.f true 221 = some () from rfl); have H' := ak H; clear H; have p174 : 0 ≤ (x39_2 : Int) := oda; have q174 : x39_2 < (t171.length : Int) := oda; obtain ⟨ad174, e174, hx174_0⟩ := Kd.at_int (Kd.R_reads' HO_37.out).2.2 x39_2 p174 q174; cases e174; replace p174 := eq_true p174; replace q174 := eq_true q174
             try go_wp2
             have n0_ := ak (Kd.R_drew HO_37.out); have n1_ := ak (blk_drew BK159.out); have n2_ := ak (blk_drew BK160.out); have n3_ := ak (blk_drew BK161.out); have n4_ := ak (blk_drew BK999.out); have n5_ := ak (below_drew1 HB.out); clear HO_37; clear BK159; clear BK160; clear BK161; clear BK999; clear HB; have HO_37 := n0_; have BK159 := n1_; have BK160 := n2_; have BK161 := n3_; have BK999 := n4_; have HB := n5_; clear n0_ n1_ n2_ n3_ n4_ n5_
             refine start_ (n := 29) (S := fun w' => True) (ds := []) #[F, F, F, F, F, F, F, F, F, F, F, F, F, F, F, F, F, F, F, F, F, F, F, F, F, F, F, F, F] (by kernel_rfl) rfl rfl trivial (fun hHeld => ?_); refine with_tabW proof_Cheapest_1.tab10 proof_Cheapest_1.bits10 (fun HT_ HW_ => ?_)
             generalize wr.drew = w55 at HO_37 BK159 BK160 BK161 BK999 HB hHeld ⊢
             refine pure_ (i := 0) (N := some 44) (v := ?_) (a' := ?_) #[T, F, F, F, F, F, F, F, F, F, F, F, F, F, F, F, F, F, F, F, F, F, F, F, F, F, F, F, F] rfl rfl (any_of HT_.out (by kernel_rfl)) (fun _ _ _ h => h) (Or.inl ⟨by rfl, ?_⟩) ?_ ?_; rotate_left; intro w'; go_simp; with_reducible rfl; rotate_left; simp only [Act.put, sA, sZ, sS, i64_w, i32_w]; rfl
             refine pure_ (i := 1) (N := some 45) (v := ?_) (a' := ?_) #[T, T, F, F, F, F, F, F, F, F, F, F, F, F, F, F, F, F, F, F, F, F, F, F, F, F, F, F, F] rfl rfl (any_of HT_.out (by kernel_rfl)) (fun _ _ _ h => h) (Or.inl ⟨by rfl, ?_⟩) ?_ ?_; rotate_left; intro w'; go_simp; with_reducible rfl; rotate_left; simp only [Act.put, sA, sZ, sS, i64_w, i32_w]; rfl
             refine pure_ (i := 2) (N := some 46) (v := ?_) (a' := ?_) #[T, T, T, F, F, F, F, F, F, F, F, F, F, F, F, F, F, F, F, F, F, F, F, F, F, F, F, F, F] rfl rfl (any_of HT_.out (by kernel_rfl)) (fun _ _ _ h => h) (Or.inl ⟨by rfl, ?_⟩) ?_ ?_; rotate_left; intro w'; go_simp; with_reducible rfl; rotate_left; simp only [Act.put, sA, sZ, sS, i64_w, i32_w]; rfl
             refine pure_ (i := 3) (N := some 47) (v := undef) (a' := ?_) #[T, T, T, T, F, F, F, F, F, F, F, F, F, F, F, F, F, F, F, F, F, F, F, F, F, F, F, F, F] rfl rfl (any_of HT_.out (by kernel_rfl)) (fun _ _ _ h => h) (Or.inr ⟨by rfl, rfl⟩) ?_ ?_
             rotate_left
             ·
              simp only [Act.put, sA, sZ, sS, i64_w, i32_w]
              rfl
             refine pure_ (i := 4) (N := some 48) (v := undef) (a' := ?_) #[T, T, T, T, T, F, F, F, F, F, F, F, F, F, F, F, F, F, F, F, F, F, F, F, F, F, F, F, F] rfl rfl (any_of HT_.out (by kernel_rfl)) (fun _ _ _ h => h) (Or.inr ⟨by rfl, rfl⟩) ?_ ?_
             rotate_left
             ·
              simp only [Act.put, sA, sZ, sS, i64_w, i32_w]
              rfl
             refine pure_ (i := 5) (N := some 49) (v := undef) (a' := ?_) #[T, T, T, T, T, T, F, F, F, F, F, F, F, F, F, F, F, F, F, F, F, F, F, F, F, F, F, F, F] rfl rfl (any_of HT_.out (by kernel_rfl)) (fun _ _ _ h => h) (Or.inr ⟨by rfl, rfl⟩) ?_ ?_
             rotate_left
             ·
              simp only [Act.put, sA, sZ, sS, i64_w, i32_w]
              rfl
             refine pure_ (i := 6) (N := some 50) (v := undef) (a' := ?_) #[T, T, T, T, T, T, T, F, F, F, F, F, F, F, F, F, F, F, F, F, F, F, F, F, F, F, F, F, F] rfl rfl (any_of HT_.out (by kernel_rfl)) (fun _ _ _ h => h) (Or.inr ⟨by rfl, rfl⟩) ?_ ?_
             rotate_left
             ·
              simp only [Act.put, sA, sZ, sS, i64_w, i32_w]
              rfl
             refine pure_ (i := 7) (N := some 51) (v := undef) (a' := ?_) #[T, T, T, T, T, T, T, T, F, F, F, F, F, F, F, F, F, F, F, F, F, F, F, F, F, F, F, F, F] rfl rfl (any_of HT_.out (by kernel_rfl)) (fun _ _ _ h => h) (Or.inr ⟨by rfl, rfl⟩) ?_ ?_
             rotate_left
             ·
              simp only [Act.put, sA, sZ, sS, i64_w, i32_w]
              rfl
             refine pure_ (i := 8) (N := some 52) (v := undef) (a' := ?_) #[T, T, T, T, T, T, T, T, T, F, F, F, F, F, F, F, F, F, F, F, F, F, F, F, F, F, F, F, F] rfl rfl (any_of HT_.out (by kernel_rfl)) (fun _ _ _ h => h) (Or.inr ⟨by rfl, rfl⟩) ?_ ?_
             rotate_left
             ·
              simp only [Act.put, sA, sZ, sS, i64_w, i32_w]
              rfl
             refine pure_ (i := 9) (N := some 53) (v := ?_) (a' := ?_) #[T, T, T, T, T, T, T, T, T, T, F, F, F, F, F, F, F, F, F, F, F, F, F, F, F, F, F, F, F] rfl rfl (any_of HT_.out (by kernel_rfl)) (fun _ _ _ h => h) (Or.inl ⟨by rfl, ?_⟩) ?_ ?_; rotate_left; intro w'; go_simp; with_reducible rfl; rotate_left; simp only [Act.put, sA, sZ, sS, i64_w, i32_w]; rfl
             refine pure_ (i := 10) (N := some 54) (v := ?_) (a' := ?_) #[T, T, T, T, T, T, T, T, T, T, T, F, F, F, F, F, F, F, F, F, F, F, F, F, F, F, F, F, F] rfl rfl (any_of HT_.out (by kernel_rfl)) (fun _ _ _ h => h) (Or.inl ⟨by rfl, ?_⟩) ?_ ?_; rotate_left; intro w'; go_simp; with_reducible rfl; rotate_left; simp only [Act.put, sA, sZ, sS, i64_w, i32_w]; rfl
             refine pure_ (i := 11) (N := some 55) (v := ?_) (a' := ?_) #[T, T, T, T, T, T, T, T, T, T, T, T, F, F, F, F, F, F, F, F, F, F, F, F, F, F, F, F, F] rfl rfl (any_of HT_.out (by kernel_rfl)) (fun _ _ _ h => h) (Or.inl ⟨by rfl, ?_⟩) ?_ ?_; rotate_left; intro w'; go_simp; with_reducible rfl; rotate_left; simp only [Act.put, sA, sZ, sS, i64_w, i32_w]; rfl
             refine pure_ (i := 12) (N := some 56) (v := ?_) (a' := ?_) #[T, T, T, T, T, T, T, T, T, T, T, T, T, F, F, F, F, F, F, F, F, F, F, F, F, F, F, F, F] rfl rfl (any_of HT_.out (by kernel_rfl)) (fun _ _ _ h => h) (Or.inl ⟨by rfl, ?_⟩) ?_ ?_; rotate_left; intro w'; go_simp; with_reducible rfl; rotate_left; simp only [Act.put, sA, sZ, sS, i64_w, i32_w]; rfl
             refine pure_ (i := 13) (N := some 57) (v := ?_) (a' := ?_) #[T, T, T, T, T, T, T, T, T, T, T, T, T, T, F, F, F, F, F, F, F, F, F, F, F, F, F, F, F] rfl rfl (any_of HT_.out (by kernel_rfl)) (fun _ _ _ h => h) (Or.inl ⟨by rfl, ?_⟩) ?_ ?_; rotate_left; intro w'; go_simp; with_reducible rfl; rotate_left; simp only [Act.put, sA, sZ, sS, i64_w, i32_w]; rfl
             refine pure_ (i := 14) (N := some 58) (v := undef) (a' := ?_) #[T, T, T, T, T, T, T, T, T, T, T, T, T, T, T, F, F, F, F, F, F, F, F, F, F, F, F, F, F] rfl rfl (any_of HT_.out (by kernel_rfl)) (fun _ _ _ h => h) (Or.inr ⟨by rfl, rfl⟩) ?_ ?_
             rotate_left
             ·
              simp only [Act.put, sA, sZ, sS, i64_w, i32_w]
              rfl
             refine pure_ (i := 15) (N := some 59) (v := undef) (a' := ?_) #[T, T, T, T, T, T, T, T, T, T, T, T, T, T, T, T, F, F, F, F, F, F, F, F, F, F, F, F, F] rfl rfl (any_of HT_.out (by kernel_rfl)) (fun _ _ _ h => h) (Or.inr ⟨by rfl, rfl⟩) ?_ ?_
             rotate_left
             ·
              simp only [Act.put, sA, sZ, sS, i64_w, i32_w]
              rfl
             refine pure_ (i := 16) (N := some 60) (v := undef) (a' := ?_) #[T, T, T, T, T, T, T, T, T, T, T, T, T, T, T, T, T, F, F, F, F, F, F, F, F, F, F, F, F] rfl rfl (any_of HT_.out (by kernel_rfl)) (fun _ _ _ h => h) (Or.inr ⟨by rfl, rfl⟩) ?_ ?_
             rotate_left
             ·
              simp only [Act.put, sA, sZ, sS, i64_w, i32_w]
              rfl
             refine pure_ (i := 17) (N := some 61) (v := undef) (a' := ?_) #[T, T, T, T, T, T, T, T, T, T, T, T, T, T, T, T, T, T, F, F, F, F, F, F, F, F, F, F, F] rfl rfl (any_of HT_.out (by kernel_rfl)) (fun _ _ _ h => h) (Or.inr ⟨by rfl, rfl⟩) ?_ ?_
             rotate_left
             ·
              simp only [Act.put, sA, sZ, sS, i64_w, i32_w]
              rfl
             refine pure_ (i := 18) (N := some 62) (v := undef) (a' := ?_) #[T, T, T, T, T, T, T, T, T, T, T, T, T, T, T, T, T, T, T, F, F, F, F, F, F, F, F, F, F] rfl rfl (any_of HT_.out (by kernel_rfl)) (fun _ _ _ h => h) (Or.inr ⟨by rfl, rfl⟩) ?_ ?_
             rotate_left
             ·
              simp only [Act.put, sA, sZ, sS, i64_w, i32_w]
              rfl
             refine pure_ (i := 19) (N := some 63) (v := undef) (a' := ?_) #[T, T, T, T, T, T, T, T, T, T, T, T, T, T, T, T, T, T, T, T, F, F, F, F, F, F, F, F, F] rfl rfl (any_of HT_.out (by kernel_rfl)) (fun _ _ _ h => h) (Or.inr ⟨by rfl, rfl⟩) ?_ ?_
             rotate_left
             ·
              simp only [Act.put, sA, sZ, sS, i64_w, i32_w]
              rfl
             refine pure_ (i := 20) (N := some 64) (v := undef) (a' := ?_) #[T, T, T, T, T, T, T, T, T, T, T, T, T, T, T, T, T, T, T, T, T, F, F, F, F, F, F, F, F] rfl rfl (any_of HT_.out (by kernel_rfl)) (fun _ _ _ h => h) (Or.inr ⟨by rfl, rfl⟩) ?_ ?_
             rotate_left
             ·
              simp only [Act.put, sA, sZ, sS, i64_w, i32_w]
              rfl
             refine pure_ (i := 21) (N := some 65) (v := undef) (a' := ?_) #[T, T, T, T, T, T, T, T, T, T, T, T, T, T, T, T, T, T, T, T, T, T, F, F, F, F, F, F, F] rfl rfl (any_of HT_.out (by kernel_rfl)) (fun _ _ _ h => h) (Or.inr ⟨by rfl, rfl⟩) ?_ ?_
             rotate_left
             ·
              simp only [Act.put, sA, sZ, sS, i64_w, i32_w]
              rfl
             refine pure_ (i := 22) (N := some 66) (v := undef) (a' := ?_) #[T, T, T, T, T, T, T, T, T, T, T, T, T, T, T, T, T, T, T, T, T, T, T, F, F, F, F, F, F] rfl rfl (any_of HT_.out (by kernel_rfl)) (fun _ _ _ h => h) (Or.inr ⟨by rfl, rfl⟩) ?_ ?_
             rotate_left
             ·
              simp only [Act.put, sA, sZ, sS, i64_w, i32_w]
              rfl
             refine pure_ (i := 23) (N := some 67) (v := undef) (a' := ?_) #[T, T, T, T, T, T, T, T, T, T, T, T, T, T, T, T, T, T, T, T, T, T, T, T, F, F, F, F, F] rfl rfl (any_of HT_.out (by kernel_rfl)) (fun _ _ _ h => h) (Or.inr ⟨by rfl, rfl⟩) ?_ ?_
             rotate_left
             ·
              simp only [Act.put, sA, sZ, sS, i64_w, i32_w]
              rfl
             refine pure_ (i := 24) (N := some 68) (v := undef) (a' := ?_) #[T, T, T, T, T, T, T, T, T, T, T, T, T, T, T, T, T, T, T, T, T, T, T, T, T, F, F, F, F] rfl rfl (any_of HT_.out (by kernel_rfl)) (fun _ _ _ h => h) (Or.inr ⟨by rfl, rfl⟩) ?_ ?_
             rotate_left
             ·
              simp only [Act.put, sA, sZ, sS, i64_w, i32_w]
              rfl
             refine pure_ (i := 25) (N := some 69) (v := undef) (a' := ?_) #[T, T, T, T, T, T, T, T, T, T, T, T, T, T, T, T, T, T, T, T, T, T, T, T, T, T, F, F, F] rfl rfl (any_of HT_.out (by kernel_rfl)) (fun _ _ _ h => h) (Or.inr ⟨by rfl, rfl⟩) ?_ ?_
             rotate_left
             ·
              simp only [Act.put, sA, sZ, sS, i64_w, i32_w]
              rfl
             refine pure_ (i := 26) (N := some 70) (v := ?_) (a' := ?_) #[T, T, T, T, T, T, T, T, T, T, T, T, T, T, T, T, T, T, T, T, T, T, T, T, T, T, T, F, F] rfl rfl (any_of HT_.out (by kernel_rfl)) (fun _ _ _ h => h) (Or.inl ⟨by rfl, ?_⟩) ?_ ?_; rotate_left; intro w'; go_simp; with_reducible rfl; rotate_left; simp only [Act.put, sA, sZ, sS, i64_w, i32_w]; rfl
             refine pure_ (i := 27) (N := some 71) (v := ?_) (a' := ?_) #[T, T, T, T, T, T, T, T, T, T, T, T, T, T, T, T, T, T, T, T, T, T, T, T, T, T, T, T, F] rfl rfl (any_of HT_.out (by kernel_rfl)) (fun _ _ _ h => h) (Or.inl ⟨by rfl, ?_⟩) ?_ ?_; rotate_left; intro w'; go_simp; with_reducible rfl; rotate_left; simp only [Act.put, sA, sZ, sS, i64_w, i32_w]; rfl
             refine one_ (i := 28) (N := some 72) #[T, T, T, T, T, T, T, T, T, T, T, T, T, T, T, T, T, T, T, T, T, T, T, T, T, T, T, T, T] rfl rfl (one_of HT_.out (by kernel_rfl)) (by decide) (fun K hK => ?_)
             refine goes_ Try.func51 (by kernel_rfl) rfl #[.bool true, .int .i64 221] (by rfl) rfl rfl (by (try simp only [List.map_toArray, List.map_cons, List.map_nil]); first | done | rfl | (simp only [List.length_drop, List.length_take]; rfl)) ?_
             with_reducible refine (proof_need.calls true 221  _ A54.out).mono ?_
             rintro e w' ⟨rfl, ⟨nd, rfl⟩⟩
             refine ⟨_, rfl, ?_⟩
             refine hK.out _ _ trivial (fun hHeld => ?_)
             clear hK K
             refine norm_ (a' := ?_) ?_ ?_
             rotate_left
             ·
              show Act.put _ (some 72) _ = _
              simp only [Act.put, sA, sZ, sS, i64_w, i32_w]
              rfl
             refine done_ (done_of HT_.out (by kernel_rfl)) ?_
             try go_wp2
             go_roundg k2
             case measure => have := HK1.out; have := HK2.out; omega
             case rel => exact ⟨(wrap64 (x39_2 + 1)), (by first | rfl | (simp [*]; done)), H', ⟨by have := HK1.out; have := HK2.out; omega⟩, ⟨rx HO_37.out⟩, ⟨bx BK159.out⟩, ⟨bx BK160.out⟩, ⟨bx BK161.out⟩, ⟨bx BK999.out⟩, ⟨lb⟩⟩
            ·
             rw [if_neg c53] at H; have c53b0 : decide (0 ≤ (rd t171 x39_2)) = false := decide_eq_false c53; clear c53; replace H := ifd H; obtain ⟨c56b0, H⟩ := H; replace H := ifd H; obtain ⟨c57b0, H⟩ := H
             by_cases c58 : (rd l1_1 x39_2) = ((rd_T98 l0_1 x39_2).f2)
             ·
              rw [if_pos c58] at H; have c58b0 : ((rd l1_1 x39_2) == ((rd_T98 l0_1 x39_2).f2)) = true := beq_iff_eq.mpr c58; have c58b1 : ((rd l1_1 x39_2) != ((rd_T98 l0_1 x39_2).f2)) = false := bne_eq_false_iff_eq.mpr c58; clear c58; have A59 := ak (show proof_need.f true 221 = some () from rfl); have H' := ak H; clear H; have p174 : 0 ≤ (x39_2 : Int) := oda; have q174 : x39_2 < (t171.length : Int) := oda; obtain ⟨ad174, e174, hx174_0⟩ := Kd.at_int (Kd.R_reads' HO_37.out).2.2 x39_2 p174 q174; cases e174; replace p174 := eq_true p174; replace q174 := eq_true q174
              try go_wp2
              have n0_ := ak (Kd.R_drew HO_37.out); have n1_ := ak (blk_drew BK159.out); have n2_ := ak (blk_drew BK160.out); have n3_ := ak (blk_drew BK161.out); have n4_ := ak (blk_drew BK999.out); have n5_ := ak (below_drew1 HB.out); clear HO_37; clear BK159; clear BK160; clear BK161; clear BK999; clear HB; have HO_37 := n0_; have BK159 := n1_; have BK160 := n2_; have BK161 := n3_; have BK999 := n4_; have HB := n5_; clear n0_ n1_ n2_ n3_ n4_ n5_; have p175 : 0 ≤ (x39_2 : Int) := oda; have q175 : x39_2 < (l1_1.length : Int) := oda; obtain ⟨ad175, e175, hx175_0⟩ := Kd.at_int HR1_1.out x39_2 p175 q175; have hw175_0 := hx175_0; cases e175
              (try replace hx175_0 := hbc HB hx175_0)
              replace p175 := eq_true p175; replace q175 := eq_true q175; have p176 : 0 ≤ (x39_2 : Int) := oda; have q176 : x39_2 < (l0_1.length : Int) := oda; obtain ⟨ad176, e176, hx176_0, hx176_1, hx176_2, hx176_3⟩ := at_T98 HR0_1.out x39_2 p176 q176; have hw176_3 := hx176_3; have hw176_2 := hx176_2; have hw176_1 := hx176_1; have hw176_0 := hx176_0; cases e176
              (try replace hx176_0 := hbc HB hx176_0)
              (try replace hx176_1 := hbc HB hx176_1)
              (try replace hx176_2 := hbc HB hx176_2)
              (try replace hx176_3 := hbc HB hx176_3)
              replace p176 := eq_true p176; replace q176 := eq_true q176
              refine start_ (n := 29) (S := fun w' => w'.cell? ⟨gb160, 0, none⟩ = some (.slice A1_0 l1_0.length c1_0) ∧ w'.cell? ⟨gb160, 1, none⟩ = some (.slice (some ad175) l1_1.length c1_1) ∧ w'.cell? ⟨gb160, 2, none⟩ = some (.slice A1_2 l1_2.length c1_2) ∧ w'.cell? ⟨gb159, 0, none⟩ = some (.int .i64 a0_0) ∧ w'.cell? ⟨gb159, 1, none⟩ = some (.slice (some ad176) l0_1.length c0_1) ∧ w'.cell? (ad175.add (x39_2).toNat) = some (.int .i64 (rd l1_1 x39_2)) ∧ w'.cell? (ad176.add ((x39_2).toNat * 4)) = some (.int .i64 ((rd_T98 l0_1 x39_2).f0)) ∧ w'.cell? ⟨(ad176.add ((x39_2).toNat * 4)).block, (ad176.add ((x39_2).toNat * 4)).off + 1, none⟩ = some (.int .i64 ((rd_T98 l0_1 x39_2).f1)) ∧ w'.cell? ⟨(ad176.add ((x39_2).toNat * 4)).block, (ad176.add ((x39_2).toNat * 4)).off + 2, none⟩ = some (.int .i64 ((rd_T98 l0_1 x39_2).f2)) ∧ w'.cell? ⟨(ad176.add ((x39_2).toNat * 4)).block, (ad176.add ((x39_2).toNat * 4)).off + 3, none⟩ = some (.int .i64 ((rd_T98 l0_1 x39_2).f3))) (ds := []) #[F, F, F, F, F, F, F, F, F, F, F, F, F, F, F, F, F, F, F, F, F, F, F, F, F, F, F, F, F] (by kernel_rfl) rfl rfl ⟨(blk_cell BK160.out 0).trans rfl, (blk_cell BK160.out 1).trans rfl, (blk_cell BK160.out 2).trans rfl, (blk_cell BK159.out 0).trans rfl, (blk_cell BK159.out 1).trans rfl, ((HB.out.cell (World.block_lt_of_cell? w _ hw175_0)).trans hw175_0), ((HB.out.cell (World.block_lt_of_cell? w _ hw176_0)).trans hw176_0), ((HB.out.cell (World.block_lt_of_cell? w _ hw176_1)).trans hw176_1), ((HB.out.cell (World.block_lt_of_cell? w _ hw176_2)).trans hw176_2), ((HB.out.cell (World.block_lt_of_cell? w _ hw176_3)).trans hw176_3)⟩ (fun hHeld => ?_); refine with_tabW proof_Cheapest_1.tab10 proof_Cheapest_1.bits10 (fun HT_ HW_ => ?_)
              generalize wr.drew = w60 at HO_37 BK159 BK160 BK161 BK999 HB hx175_0 hx176_0 hx176_1 hx176_2 hx176_3 hHeld ⊢
              refine pure_ (i := 0) (N := some 44) (v := ?_) (a' := ?_) #[T, F, F, F, F, F, F, F, F, F, F, F, F, F, F, F, F, F, F, F, F, F, F, F, F, F, F, F, F] rfl rfl (any_of HT_.out (by kernel_rfl)) (fun _ _ _ h => h) (Or.inl ⟨by rfl, ?_⟩) ?_ ?_; rotate_left; intro w'; go_simp; with_reducible rfl; rotate_left; simp only [Act.put, sA, sZ, sS, i64_w, i32_w]; rfl
              refine pure_ (i := 1) (N := some 45) (v := ?_) (a' := ?_) #[T, T, F, F, F, F, F, F, F, F, F, F, F, F, F, F, F, F, F, F, F, F, F, F, F, F, F, F, F] rfl rfl (any_of HT_.out (by kernel_rfl)) (fun _ _ _ h => h) (Or.inl ⟨by rfl, ?_⟩) ?_ ?_; rotate_left; intro w'; go_simp; with_reducible rfl; rotate_left; simp only [Act.put, sA, sZ, sS, i64_w, i32_w]; rfl
              refine pure_ (i := 2) (N := some 46) (v := ?_) (a' := ?_) #[T, T, T, F, F, F, F, F, F, F, F, F, F, F, F, F, F, F, F, F, F, F, F, F, F, F, F, F, F] rfl rfl (any_of HT_.out (by kernel_rfl)) (fun _ _ _ h => h) (Or.inl ⟨by rfl, ?_⟩) ?_ ?_; rotate_left; intro w'; go_simp; with_reducible rfl; rotate_left; simp only [Act.put, sA, sZ, sS, i64_w, i32_w]; rfl
              refine pure_ (i := 3) (N := some 47) (v := undef) (a' := ?_) #[T, T, T, T, F, F, F, F, F, F, F, F, F, F, F, F, F, F, F, F, F, F, F, F, F, F, F, F, F] rfl rfl (any_of HT_.out (by kernel_rfl)) (fun _ _ _ h => h) (Or.inr ⟨by rfl, rfl⟩) ?_ ?_
              rotate_left
              ·
               simp only [Act.put, sA, sZ, sS, i64_w, i32_w]
               rfl
              refine pure_ (i := 4) (N := some 48) (v := undef) (a' := ?_) #[T, T, T, T, T, F, F, F, F, F, F, F, F, F, F, F, F, F, F, F, F, F, F, F, F, F, F, F, F] rfl rfl (any_of HT_.out (by kernel_rfl)) (fun _ _ _ h => h) (Or.inr ⟨by rfl, rfl⟩) ?_ ?_
              rotate_left
              ·
               simp only [Act.put, sA, sZ, sS, i64_w, i32_w]
               rfl
              refine pure_ (i := 5) (N := some 49) (v := undef) (a' := ?_) #[T, T, T, T, T, T, F, F, F, F, F, F, F, F, F, F, F, F, F, F, F, F, F, F, F, F, F, F, F] rfl rfl (any_of HT_.out (by kernel_rfl)) (fun _ _ _ h => h) (Or.inr ⟨by rfl, rfl⟩) ?_ ?_
              rotate_left
              ·
               simp only [Act.put, sA, sZ, sS, i64_w, i32_w]
               rfl
              refine pure_ (i := 6) (N := some 50) (v := undef) (a' := ?_) #[T, T, T, T, T, T, T, F, F, F, F, F, F, F, F, F, F, F, F, F, F, F, F, F, F, F, F, F, F] rfl rfl (any_of HT_.out (by kernel_rfl)) (fun _ _ _ h => h) (Or.inr ⟨by rfl, rfl⟩) ?_ ?_
              rotate_left
              ·
               simp only [Act.put, sA, sZ, sS, i64_w, i32_w]
               rfl
              refine pure_ (i := 7) (N := some 51) (v := undef) (a' := ?_) #[T, T, T, T, T, T, T, T, F, F, F, F, F, F, F, F, F, F, F, F, F, F, F, F, F, F, F, F, F] rfl rfl (any_of HT_.out (by kernel_rfl)) (fun _ _ _ h => h) (Or.inr ⟨by rfl, rfl⟩) ?_ ?_
              rotate_left
              ·
               simp only [Act.put, sA, sZ, sS, i64_w, i32_w]
               rfl
              refine pure_ (i := 8) (N := some 52) (v := undef) (a' := ?_) #[T, T, T, T, T, T, T, T, T, F, F, F, F, F, F, F, F, F, F, F, F, F, F, F, F, F, F, F, F] rfl rfl (any_of HT_.out (by kernel_rfl)) (fun _ _ _ h => h) (Or.inr ⟨by rfl, rfl⟩) ?_ ?_
              rotate_left
              ·
               simp only [Act.put, sA, sZ, sS, i64_w, i32_w]
               rfl
              refine pure_ (i := 9) (N := some 53) (v := ?_) (a' := ?_) #[T, T, T, T, T, T, T, T, T, T, F, F, F, F, F, F, F, F, F, F, F, F, F, F, F, F, F, F, F] rfl rfl (any_of HT_.out (by kernel_rfl)) (fun _ _ _ h => h) (Or.inl ⟨by rfl, ?_⟩) ?_ ?_; rotate_left; intro w'; go_simp; with_reducible rfl; rotate_left; simp only [Act.put, sA, sZ, sS, i64_w, i32_w]; rfl
              refine pure_ (i := 10) (N := some 54) (v := ?_) (a' := ?_) #[T, T, T, T, T, T, T, T, T, T, T, F, F, F, F, F, F, F, F, F, F, F, F, F, F, F, F, F, F] rfl rfl (any_of HT_.out (by kernel_rfl)) (fun _ _ _ h => h) (Or.inl ⟨by rfl, ?_⟩) ?_ ?_; rotate_left; intro w'; go_simp; with_reducible rfl; rotate_left; simp only [Act.put, sA, sZ, sS, i64_w, i32_w]; rfl
              refine pure_ (i := 11) (N := some 55) (v := ?_) (a' := ?_) #[T, T, T, T, T, T, T, T, T, T, T, T, F, F, F, F, F, F, F, F, F, F, F, F, F, F, F, F, F] rfl rfl (any_of HT_.out (by kernel_rfl)) (fun _ _ _ h => h) (Or.inl ⟨by rfl, ?_⟩) ?_ ?_; rotate_left; intro w'; go_simp; with_reducible rfl; rotate_left; simp only [Act.put, sA, sZ, sS, i64_w, i32_w]; rfl
              refine pure_ (i := 12) (N := some 56) (v := ?_) (a' := ?_) #[T, T, T, T, T, T, T, T, T, T, T, T, T, F, F, F, F, F, F, F, F, F, F, F, F, F, F, F, F] rfl rfl (any_of HT_.out (by kernel_rfl)) (fun _ _ _ h => h) (Or.inl ⟨by rfl, ?_⟩) ?_ ?_; rotate_left; intro w'; go_simp; with_reducible rfl; rotate_left; simp only [Act.put, sA, sZ, sS, i64_w, i32_w]; rfl
              refine pure_ (i := 13) (N := some 57) (v := ?_) (a' := ?_) #[T, T, T, T, T, T, T, T, T, T, T, T, T, T, F, F, F, F, F, F, F, F, F, F, F, F, F, F, F] rfl rfl (any_of HT_.out (by kernel_rfl)) (fun _ _ _ h => h) (Or.inl ⟨by rfl, ?_⟩) ?_ ?_; rotate_left; intro w'; go_simp; with_reducible rfl; rotate_left; simp only [Act.put, sA, sZ, sS, i64_w, i32_w]; rfl
              refine pure_ (i := 14) (N := some 58) (v := ?_) (a' := ?_) #[T, T, T, T, T, T, T, T, T, T, T, T, T, T, T, F, F, F, F, F, F, F, F, F, F, F, F, F, F] rfl rfl (any_of HT_.out (by kernel_rfl)) (fun _ _ _ h => h) (Or.inl ⟨by rfl, ?_⟩) ?_ ?_; rotate_left; intro w'; go_simp; with_reducible rfl; rotate_left; simp only [Act.put, sA, sZ, sS, i64_w, i32_w]; rfl
              refine pure_ (i := 16) (N := some 60) (v := ?_) (a' := ?_) #[T, T, T, T, T, T, T, T, T, T, T, T, T, T, T, F, T, F, F, F, F, F, F, F, F, F, F, F, F] rfl rfl (any_of HT_.out (by kernel_rfl)) (fun _ _ _ h => h) (Or.inl ⟨by rfl, ?_⟩) ?_ ?_; rotate_left; intro w'; go_simp; with_reducible rfl; rotate_left; simp only [Act.put, sA, sZ, sS, i64_w, i32_w]; rfl
              refine pure_ (i := 19) (N := some 63) (v := ?_) (a' := ?_) #[T, T, T, T, T, T, T, T, T, T, T, T, T, T, T, F, T, F, F, T, F, F, F, F, F, F, F, F, F] rfl rfl (any_of HT_.out (by kernel_rfl)) (fun _ _ _ h => h) (Or.inl ⟨by rfl, ?_⟩) ?_ ?_; rotate_left; intro w'; go_simp; with_reducible rfl; rotate_left; simp only [Act.put, sA, sZ, sS, i64_w, i32_w]; rfl
              refine pure_ (i := 21) (N := some 65) (v := ?_) (a' := ?_) #[T, T, T, T, T, T, T, T, T, T, T, T, T, T, T, F, T, F, F, T, F, T, F, F, F, F, F, F, F] rfl rfl (any_of HT_.out (by kernel_rfl)) (fun _ _ _ h => h) (Or.inl ⟨by rfl, ?_⟩) ?_ ?_; rotate_left; intro w'; go_simp; with_reducible rfl; rotate_left; simp only [Act.put, sA, sZ, sS, i64_w, i32_w]; rfl
              refine take_ (i := 15) (N := some 59) (v := ?_) (a' := ?_) #[T, T, T, T, T, T, T, T, T, T, T, T, T, T, T, T, T, F, F, T, F, T, F, F, F, F, F, F, F] rfl rfl (take_ofW HT_.out HW_.out (by kernel_rfl)) (fun _ _ _ h => h) (Or.inl ⟨by rfl, ?_⟩) hHeld ?_ ?_; rotate_left; rintro w' ⟨s0, s1, s2, s3, s4, s5, s6, s7, s8, s9⟩; go_simp; with_reducible rfl; rotate_left; simp only [Act.put, sA, sZ, sS, i64_w, i32_w]; rfl
              refine pure_ (i := 17) (N := some 61) (v := ?_) (a' := ?_) #[T, T, T, T, T, T, T, T, T, T, T, T, T, T, T, T, T, T, F, T, F, T, F, F, F, F, F, F, F] rfl rfl (any_of HT_.out (by kernel_rfl)) (fun _ _ _ h => h) (Or.inl ⟨by rfl, ?_⟩) ?_ ?_; rotate_left; intro w'; go_simp; with_reducible rfl; rotate_left; simp only [Act.put, sA, sZ, sS, i64_w, i32_w]; rfl
              refine take_ (i := 18) (N := some 62) (v := ?_) (a' := ?_) #[T, T, T, T, T, T, T, T, T, T, T, T, T, T, T, T, T, T, T, T, F, T, F, F, F, F, F, F, F] rfl rfl (take_ofW HT_.out HW_.out (by kernel_rfl)) (fun _ _ _ h => h) (Or.inl ⟨by rfl, ?_⟩) hHeld ?_ ?_; rotate_left; rintro w' ⟨s0, s1, s2, s3, s4, s5, s6, s7, s8, s9⟩; go_simp; with_reducible rfl; rotate_left; simp only [Act.put, sA, sZ, sS, i64_w, i32_w]; rfl
              refine take_ (i := 20) (N := some 64) (v := ?_) (a' := ?_) #[T, T, T, T, T, T, T, T, T, T, T, T, T, T, T, T, T, T, T, T, T, T, F, F, F, F, F, F, F] rfl rfl (take_ofW HT_.out HW_.out (by kernel_rfl)) (fun _ _ _ h => h) (Or.inl ⟨by rfl, ?_⟩) hHeld ?_ ?_; rotate_left; rintro w' ⟨s0, s1, s2, s3, s4, s5, s6, s7, s8, s9⟩; go_simp; with_reducible rfl; rotate_left; simp only [Act.put, sA, sZ, sS, i64_w, i32_w]; rfl
              refine pure_ (i := 22) (N := some 66) (v := ?_) (a' := ?_) #[T, T, T, T, T, T, T, T, T, T, T, T, T, T, T, T, T, T, T, T, T, T, T, F, F, F, F, F, F] rfl rfl (any_of HT_.out (by kernel_rfl)) (fun _ _ _ h => h) (Or.inl ⟨by rfl, ?_⟩) ?_ ?_; rotate_left; intro w'; go_simp; with_reducible rfl; rotate_left; simp only [Act.put, sA, sZ, sS, i64_w, i32_w]; rfl
              refine pure_ (i := 23) (N := some 67) (v := ?_) (a' := ?_) #[T, T, T, T, T, T, T, T, T, T, T, T, T, T, T, T, T, T, T, T, T, T, T, T, F, F, F, F, F] rfl rfl (any_of HT_.out (by kernel_rfl)) (fun _ _ _ h => h) (Or.inl ⟨by rfl, ?_⟩) ?_ ?_; rotate_left; intro w'; go_simp; with_reducible rfl; rotate_left; simp only [Act.put, sA, sZ, sS, i64_w, i32_w]; rfl
              refine take_ (i := 24) (N := some 68) (v := ?_) (a' := ?_) #[T, T, T, T, T, T, T, T, T, T, T, T, T, T, T, T, T, T, T, T, T, T, T, T, T, F, F, F, F] rfl rfl (take_ofW HT_.out HW_.out (by kernel_rfl)) (fun _ _ _ h => h) (Or.inl ⟨by rfl, ?_⟩) hHeld ?_ ?_; rotate_left; rintro w' ⟨s0, s1, s2, s3, s4, s5, s6, s7, s8, s9⟩; go_simp; with_reducible rfl; rotate_left; simp only [Act.put, sA, sZ, sS, i64_w, i32_w]; rfl
              refine pure_ (i := 25) (N := some 69) (v := ?_) (a' := ?_) #[T, T, T, T, T, T, T, T, T, T, T, T, T, T, T, T, T, T, T, T, T, T, T, T, T, T, F, F, F] rfl rfl (any_of HT_.out (by kernel_rfl)) (fun _ _ _ h => h) (Or.inl ⟨by rfl, ?_⟩) ?_ ?_; rotate_left; intro w'; go_simp; with_reducible rfl; rotate_left; simp only [Act.put, sA, sZ, sS, i64_w, i32_w]; rfl
              refine pure_ (i := 26) (N := some 70) (v := ?_) (a' := ?_) #[T, T, T, T, T, T, T, T, T, T, T, T, T, T, T, T, T, T, T, T, T, T, T, T, T, T, T, F, F] rfl rfl (any_of HT_.out (by kernel_rfl)) (fun _ _ _ h => h) (Or.inl ⟨by rfl, ?_⟩) ?_ ?_; rotate_left; intro w'; go_simp; with_reducible rfl; rotate_left; simp only [Act.put, sA, sZ, sS, i64_w, i32_w]; rfl
              refine pure_ (i := 27) (N := some 71) (v := ?_) (a' := ?_) #[T, T, T, T, T, T, T, T, T, T, T, T, T, T, T, T, T, T, T, T, T, T, T, T, T, T, T, T, F] rfl rfl (any_of HT_.out (by kernel_rfl)) (fun _ _ _ h => h) (Or.inl ⟨by rfl, ?_⟩) ?_ ?_; rotate_left; intro w'; go_simp; with_reducible rfl; rotate_left; simp only [Act.put, sA, sZ, sS, i64_w, i32_w]; rfl
              refine one_ (i := 28) (N := some 72) #[T, T, T, T, T, T, T, T, T, T, T, T, T, T, T, T, T, T, T, T, T, T, T, T, T, T, T, T, T] rfl rfl (one_of HT_.out (by kernel_rfl)) (by decide) (fun K hK => ?_)
              refine goes_ Try.func51 (by kernel_rfl) rfl #[.bool true, .int .i64 221] (by rfl) rfl rfl (by (try simp only [List.map_toArray, List.map_cons, List.map_nil]); first | done | rfl | (simp only [List.length_drop, List.length_take]; rfl)) ?_
              with_reducible refine (proof_need.calls true 221  _ A59.out).mono ?_
              rintro e w' ⟨rfl, ⟨nd, rfl⟩⟩
              refine ⟨_, rfl, ?_⟩
              refine hK.out _ _ ⟨(blk_cell BK160.out 0).trans rfl, (blk_cell BK160.out 1).trans rfl, (blk_cell BK160.out 2).trans rfl, (blk_cell BK159.out 0).trans rfl, (blk_cell BK159.out 1).trans rfl, ((HB.out.cell (World.block_lt_of_cell? w _ hw175_0)).trans hw175_0), ((HB.out.cell (World.block_lt_of_cell? w _ hw176_0)).trans hw176_0), ((HB.out.cell (World.block_lt_of_cell? w _ hw176_1)).trans hw176_1), ((HB.out.cell (World.block_lt_of_cell? w _ hw176_2)).trans hw176_2), ((HB.out.cell (World.block_lt_of_cell? w _ hw176_3)).trans hw176_3)⟩ (fun hHeld => ?_)
              clear hK K
              refine norm_ (a' := ?_) ?_ ?_
              rotate_left
              ·
               show Act.put _ (some 72) _ = _
               simp only [Act.put, sA, sZ, sS, i64_w, i32_w]
               rfl
              refine done_ (done_of HT_.out (by kernel_rfl)) ?_
              try go_wp2
              go_roundg k2
              case measure => have := HK1.out; have := HK2.out; omega
              case rel => exact ⟨(wrap64 (x39_2 + 1)), (by first | rfl | (simp [*]; done)), H', ⟨by have := HK1.out; have := HK2.out; omega⟩, ⟨rx HO_37.out⟩, ⟨bx BK159.out⟩, ⟨bx BK160.out⟩, ⟨bx BK161.out⟩, ⟨bx BK999.out⟩, ⟨lb⟩⟩
             ·
              rw [if_neg c58] at H; have c58b0 : ((rd l1_1 x39_2) == ((rd_T98 l0_1 x39_2).f2)) = false := beq_eq_false_iff_ne.mpr c58; have c58b1 : ((rd l1_1 x39_2) != ((rd_T98 l0_1 x39_2).f2)) = true := bne_iff_ne.mpr c58
              simp only [Option.some.injEq, Prod.mk.injEq] at H
              obtain ⟨rfl, rfl⟩ := H; have p174 : 0 ≤ (x39_2 : Int) := oda; have q174 : x39_2 < (t171.length : Int) := oda; obtain ⟨ad174, e174, hx174_0⟩ := Kd.at_int (Kd.R_reads' HO_37.out).2.2 x39_2 p174 q174; cases e174; replace p174 := eq_true p174; replace q174 := eq_true q174
              try go_wp2
              have n0_ := ak (Kd.R_drew HO_37.out); have n1_ := ak (blk_drew BK159.out); have n2_ := ak (blk_drew BK160.out); have n3_ := ak (blk_drew BK161.out); have n4_ := ak (blk_drew BK999.out); have n5_ := ak (below_drew1 HB.out); clear HO_37; clear BK159; clear BK160; clear BK161; clear BK999; clear HB; have HO_37 := n0_; have BK159 := n1_; have BK160 := n2_; have BK161 := n3_; have BK999 := n4_; have HB := n5_; clear n0_ n1_ n2_ n3_ n4_ n5_; have p175 : 0 ≤ (x39_2 : Int) := oda; have q175 : x39_2 < (l1_1.length : Int) := oda; obtain ⟨ad175, e175, hx175_0⟩ := Kd.at_int HR1_1.out x39_2 p175 q175; have hw175_0 := hx175_0; cases e175
              (try replace hx175_0 := hbc HB hx175_0)
              replace p175 := eq_true p175; replace q175 := eq_true q175; have p176 : 0 ≤ (x39_2 : Int) := oda; have q176 : x39_2 < (l0_1.length : Int) := oda; obtain ⟨ad176, e176, hx176_0, hx176_1, hx176_2, hx176_3⟩ := at_T98 HR0_1.out x39_2 p176 q176; have hw176_3 := hx176_3; have hw176_2 := hx176_2; have hw176_1 := hx176_1; have hw176_0 := hx176_0; cases e176
              (try replace hx176_0 := hbc HB hx176_0)
              (try replace hx176_1 := hbc HB hx176_1)
              (try replace hx176_2 := hbc HB hx176_2)
              (try replace hx176_3 := hbc HB hx176_3)
              replace p176 := eq_true p176; replace q176 := eq_true q176
              refine start_ (n := 29) (S := fun w' => w'.cell? ⟨gb160, 0, none⟩ = some (.slice A1_0 l1_0.length c1_0) ∧ w'.cell? ⟨gb160, 1, none⟩ = some (.slice (some ad175) l1_1.length c1_1) ∧ w'.cell? ⟨gb160, 2, none⟩ = some (.slice A1_2 l1_2.length c1_2) ∧ w'.cell? ⟨gb159, 0, none⟩ = some (.int .i64 a0_0) ∧ w'.cell? ⟨gb159, 1, none⟩ = some (.slice (some ad176) l0_1.length c0_1) ∧ w'.cell? (ad175.add (x39_2).toNat) = some (.int .i64 (rd l1_1 x39_2)) ∧ w'.cell? (ad176.add ((x39_2).toNat * 4)) = some (.int .i64 ((rd_T98 l0_1 x39_2).f0)) ∧ w'.cell? ⟨(ad176.add ((x39_2).toNat * 4)).block, (ad176.add ((x39_2).toNat * 4)).off + 1, none⟩ = some (.int .i64 ((rd_T98 l0_1 x39_2).f1)) ∧ w'.cell? ⟨(ad176.add ((x39_2).toNat * 4)).block, (ad176.add ((x39_2).toNat * 4)).off + 2, none⟩ = some (.int .i64 ((rd_T98 l0_1 x39_2).f2)) ∧ w'.cell? ⟨(ad176.add ((x39_2).toNat * 4)).block, (ad176.add ((x39_2).toNat * 4)).off + 3, none⟩ = some (.int .i64 ((rd_T98 l0_1 x39_2).f3))) (ds := []) #[F, F, F, F, F, F, F, F, F, F, F, F, F, F, F, F, F, F, F, F, F, F, F, F, F, F, F, F, F] (by kernel_rfl) rfl rfl ⟨(blk_cell BK160.out 0).trans rfl, (blk_cell BK160.out 1).trans rfl, (blk_cell BK160.out 2).trans rfl, (blk_cell BK159.out 0).trans rfl, (blk_cell BK159.out 1).trans rfl, ((HB.out.cell (World.block_lt_of_cell? w _ hw175_0)).trans hw175_0), ((HB.out.cell (World.block_lt_of_cell? w _ hw176_0)).trans hw176_0), ((HB.out.cell (World.block_lt_of_cell? w _ hw176_1)).trans hw176_1), ((HB.out.cell (World.block_lt_of_cell? w _ hw176_2)).trans hw176_2), ((HB.out.cell (World.block_lt_of_cell? w _ hw176_3)).trans hw176_3)⟩ (fun hHeld => ?_); refine with_tabW proof_Cheapest_1.tab10 proof_Cheapest_1.bits10 (fun HT_ HW_ => ?_)
              generalize wr.drew = w61 at HO_37 BK159 BK160 BK161 BK999 HB hx175_0 hx176_0 hx176_1 hx176_2 hx176_3 hHeld ⊢
              refine pure_ (i := 0) (N := some 44) (v := ?_) (a' := ?_) #[T, F, F, F, F, F, F, F, F, F, F, F, F, F, F, F, F, F, F, F, F, F, F, F, F, F, F, F, F] rfl rfl (any_of HT_.out (by kernel_rfl)) (fun _ _ _ h => h) (Or.inl ⟨by rfl, ?_⟩) ?_ ?_; rotate_left; intro w'; go_simp; with_reducible rfl; rotate_left; simp only [Act.put, sA, sZ, sS, i64_w, i32_w]; rfl
              refine pure_ (i := 1) (N := some 45) (v := ?_) (a' := ?_) #[T, T, F, F, F, F, F, F, F, F, F, F, F, F, F, F, F, F, F, F, F, F, F, F, F, F, F, F, F] rfl rfl (any_of HT_.out (by kernel_rfl)) (fun _ _ _ h => h) (Or.inl ⟨by rfl, ?_⟩) ?_ ?_; rotate_left; intro w'; go_simp; with_reducible rfl; rotate_left; simp only [Act.put, sA, sZ, sS, i64_w, i32_w]; rfl
              refine pure_ (i := 2) (N := some 46) (v := ?_) (a' := ?_) #[T, T, T, F, F, F, F, F, F, F, F, F, F, F, F, F, F, F, F, F, F, F, F, F, F, F, F, F, F] rfl rfl (any_of HT_.out (by kernel_rfl)) (fun _ _ _ h => h) (Or.inl ⟨by rfl, ?_⟩) ?_ ?_; rotate_left; intro w'; go_simp; with_reducible rfl; rotate_left; simp only [Act.put, sA, sZ, sS, i64_w, i32_w]; rfl
              refine pure_ (i := 3) (N := some 47) (v := undef) (a' := ?_) #[T, T, T, T, F, F, F, F, F, F, F, F, F, F, F, F, F, F, F, F, F, F, F, F, F, F, F, F, F] rfl rfl (any_of HT_.out (by kernel_rfl)) (fun _ _ _ h => h) (Or.inr ⟨by rfl, rfl⟩) ?_ ?_
              rotate_left
              ·
               simp only [Act.put, sA, sZ, sS, i64_w, i32_w]
               rfl
              refine pure_ (i := 4) (N := some 48) (v := undef) (a' := ?_) #[T, T, T, T, T, F, F, F, F, F, F, F, F, F, F, F, F, F, F, F, F, F, F, F, F, F, F, F, F] rfl rfl (any_of HT_.out (by kernel_rfl)) (fun _ _ _ h => h) (Or.inr ⟨by rfl, rfl⟩) ?_ ?_
              rotate_left
              ·
               simp only [Act.put, sA, sZ, sS, i64_w, i32_w]
               rfl
              refine pure_ (i := 5) (N := some 49) (v := undef) (a' := ?_) #[T, T, T, T, T, T, F, F, F, F, F, F, F, F, F, F, F, F, F, F, F, F, F, F, F, F, F, F, F] rfl rfl (any_of HT_.out (by kernel_rfl)) (fun _ _ _ h => h) (Or.inr ⟨by rfl, rfl⟩) ?_ ?_
              rotate_left
              ·
               simp only [Act.put, sA, sZ, sS, i64_w, i32_w]
               rfl
              refine pure_ (i := 6) (N := some 50) (v := undef) (a' := ?_) #[T, T, T, T, T, T, T, F, F, F, F, F, F, F, F, F, F, F, F, F, F, F, F, F, F, F, F, F, F] rfl rfl (any_of HT_.out (by kernel_rfl)) (fun _ _ _ h => h) (Or.inr ⟨by rfl, rfl⟩) ?_ ?_
              rotate_left
              ·
               simp only [Act.put, sA, sZ, sS, i64_w, i32_w]
               rfl
              refine pure_ (i := 7) (N := some 51) (v := undef) (a' := ?_) #[T, T, T, T, T, T, T, T, F, F, F, F, F, F, F, F, F, F, F, F, F, F, F, F, F, F, F, F, F] rfl rfl (any_of HT_.out (by kernel_rfl)) (fun _ _ _ h => h) (Or.inr ⟨by rfl, rfl⟩) ?_ ?_
              rotate_left
              ·
               simp only [Act.put, sA, sZ, sS, i64_w, i32_w]
               rfl
              refine pure_ (i := 8) (N := some 52) (v := undef) (a' := ?_) #[T, T, T, T, T, T, T, T, T, F, F, F, F, F, F, F, F, F, F, F, F, F, F, F, F, F, F, F, F] rfl rfl (any_of HT_.out (by kernel_rfl)) (fun _ _ _ h => h) (Or.inr ⟨by rfl, rfl⟩) ?_ ?_
              rotate_left
              ·
               simp only [Act.put, sA, sZ, sS, i64_w, i32_w]
               rfl
              refine pure_ (i := 9) (N := some 53) (v := ?_) (a' := ?_) #[T, T, T, T, T, T, T, T, T, T, F, F, F, F, F, F, F, F, F, F, F, F, F, F, F, F, F, F, F] rfl rfl (any_of HT_.out (by kernel_rfl)) (fun _ _ _ h => h) (Or.inl ⟨by rfl, ?_⟩) ?_ ?_; rotate_left; intro w'; go_simp; with_reducible rfl; rotate_left; simp only [Act.put, sA, sZ, sS, i64_w, i32_w]; rfl
              refine pure_ (i := 10) (N := some 54) (v := ?_) (a' := ?_) #[T, T, T, T, T, T, T, T, T, T, T, F, F, F, F, F, F, F, F, F, F, F, F, F, F, F, F, F, F] rfl rfl (any_of HT_.out (by kernel_rfl)) (fun _ _ _ h => h) (Or.inl ⟨by rfl, ?_⟩) ?_ ?_; rotate_left; intro w'; go_simp; with_reducible rfl; rotate_left; simp only [Act.put, sA, sZ, sS, i64_w, i32_w]; rfl
              refine pure_ (i := 11) (N := some 55) (v := ?_) (a' := ?_) #[T, T, T, T, T, T, T, T, T, T, T, T, F, F, F, F, F, F, F, F, F, F, F, F, F, F, F, F, F] rfl rfl (any_of HT_.out (by kernel_rfl)) (fun _ _ _ h => h) (Or.inl ⟨by rfl, ?_⟩) ?_ ?_; rotate_left; intro w'; go_simp; with_reducible rfl; rotate_left; simp only [Act.put, sA, sZ, sS, i64_w, i32_w]; rfl
              refine pure_ (i := 12) (N := some 56) (v := ?_) (a' := ?_) #[T, T, T, T, T, T, T, T, T, T, T, T, T, F, F, F, F, F, F, F, F, F, F, F, F, F, F, F, F] rfl rfl (any_of HT_.out (by kernel_rfl)) (fun _ _ _ h => h) (Or.inl ⟨by rfl, ?_⟩) ?_ ?_; rotate_left; intro w'; go_simp; with_reducible rfl; rotate_left; simp only [Act.put, sA, sZ, sS, i64_w, i32_w]; rfl
              refine pure_ (i := 13) (N := some 57) (v := ?_) (a' := ?_) #[T, T, T, T, T, T, T, T, T, T, T, T, T, T, F, F, F, F, F, F, F, F, F, F, F, F, F, F, F] rfl rfl (any_of HT_.out (by kernel_rfl)) (fun _ _ _ h => h) (Or.inl ⟨by rfl, ?_⟩) ?_ ?_; rotate_left; intro w'; go_simp; with_reducible rfl; rotate_left; simp only [Act.put, sA, sZ, sS, i64_w, i32_w]; rfl
              refine pure_ (i := 14) (N := some 58) (v := ?_) (a' := ?_) #[T, T, T, T, T, T, T, T, T, T, T, T, T, T, T, F, F, F, F, F, F, F, F, F, F, F, F, F, F] rfl rfl (any_of HT_.out (by kernel_rfl)) (fun _ _ _ h => h) (Or.inl ⟨by rfl, ?_⟩) ?_ ?_; rotate_left; intro w'; go_simp; with_reducible rfl; rotate_left; simp only [Act.put, sA, sZ, sS, i64_w, i32_w]; rfl
              refine pure_ (i := 16) (N := some 60) (v := ?_) (a' := ?_) #[T, T, T, T, T, T, T, T, T, T, T, T, T, T, T, F, T, F, F, F, F, F, F, F, F, F, F, F, F] rfl rfl (any_of HT_.out (by kernel_rfl)) (fun _ _ _ h => h) (Or.inl ⟨by rfl, ?_⟩) ?_ ?_; rotate_left; intro w'; go_simp; with_reducible rfl; rotate_left; simp only [Act.put, sA, sZ, sS, i64_w, i32_w]; rfl
              refine pure_ (i := 19) (N := some 63) (v := ?_) (a' := ?_) #[T, T, T, T, T, T, T, T, T, T, T, T, T, T, T, F, T, F, F, T, F, F, F, F, F, F, F, F, F] rfl rfl (any_of HT_.out (by kernel_rfl)) (fun _ _ _ h => h) (Or.inl ⟨by rfl, ?_⟩) ?_ ?_; rotate_left; intro w'; go_simp; with_reducible rfl; rotate_left; simp only [Act.put, sA, sZ, sS, i64_w, i32_w]; rfl
              refine pure_ (i := 21) (N := some 65) (v := ?_) (a' := ?_) #[T, T, T, T, T, T, T, T, T, T, T, T, T, T, T, F, T, F, F, T, F, T, F, F, F, F, F, F, F] rfl rfl (any_of HT_.out (by kernel_rfl)) (fun _ _ _ h => h) (Or.inl ⟨by rfl, ?_⟩) ?_ ?_; rotate_left; intro w'; go_simp; with_reducible rfl; rotate_left; simp only [Act.put, sA, sZ, sS, i64_w, i32_w]; rfl
              refine take_ (i := 15) (N := some 59) (v := ?_) (a' := ?_) #[T, T, T, T, T, T, T, T, T, T, T, T, T, T, T, T, T, F, F, T, F, T, F, F, F, F, F, F, F] rfl rfl (take_ofW HT_.out HW_.out (by kernel_rfl)) (fun _ _ _ h => h) (Or.inl ⟨by rfl, ?_⟩) hHeld ?_ ?_; rotate_left; rintro w' ⟨s0, s1, s2, s3, s4, s5, s6, s7, s8, s9⟩; go_simp; with_reducible rfl; rotate_left; simp only [Act.put, sA, sZ, sS, i64_w, i32_w]; rfl
              refine pure_ (i := 17) (N := some 61) (v := ?_) (a' := ?_) #[T, T, T, T, T, T, T, T, T, T, T, T, T, T, T, T, T, T, F, T, F, T, F, F, F, F, F, F, F] rfl rfl (any_of HT_.out (by kernel_rfl)) (fun _ _ _ h => h) (Or.inl ⟨by rfl, ?_⟩) ?_ ?_; rotate_left; intro w'; go_simp; with_reducible rfl; rotate_left; simp only [Act.put, sA, sZ, sS, i64_w, i32_w]; rfl
              refine take_ (i := 18) (N := some 62) (v := ?_) (a' := ?_) #[T, T, T, T, T, T, T, T, T, T, T, T, T, T, T, T, T, T, T, T, F, T, F, F, F, F, F, F, F] rfl rfl (take_ofW HT_.out HW_.out (by kernel_rfl)) (fun _ _ _ h => h) (Or.inl ⟨by rfl, ?_⟩) hHeld ?_ ?_; rotate_left; rintro w' ⟨s0, s1, s2, s3, s4, s5, s6, s7, s8, s9⟩; go_simp; with_reducible rfl; rotate_left; simp only [Act.put, sA, sZ, sS, i64_w, i32_w]; rfl
              refine take_ (i := 20) (N := some 64) (v := ?_) (a' := ?_) #[T, T, T, T, T, T, T, T, T, T, T, T, T, T, T, T, T, T, T, T, T, T, F, F, F, F, F, F, F] rfl rfl (take_ofW HT_.out HW_.out (by kernel_rfl)) (fun _ _ _ h => h) (Or.inl ⟨by rfl, ?_⟩) hHeld ?_ ?_; rotate_left; rintro w' ⟨s0, s1, s2, s3, s4, s5, s6, s7, s8, s9⟩; go_simp; with_reducible rfl; rotate_left; simp only [Act.put, sA, sZ, sS, i64_w, i32_w]; rfl
              refine pure_ (i := 22) (N := some 66) (v := ?_) (a' := ?_) #[T, T, T, T, T, T, T, T, T, T, T, T, T, T, T, T, T, T, T, T, T, T, T, F, F, F, F, F, F] rfl rfl (any_of HT_.out (by kernel_rfl)) (fun _ _ _ h => h) (Or.inl ⟨by rfl, ?_⟩) ?_ ?_; rotate_left; intro w'; go_simp; with_reducible rfl; rotate_left; simp only [Act.put, sA, sZ, sS, i64_w, i32_w]; rfl
              refine pure_ (i := 23) (N := some 67) (v := ?_) (a' := ?_) #[T, T, T, T, T, T, T, T, T, T, T, T, T, T, T, T, T, T, T, T, T, T, T, T, F, F, F, F, F] rfl rfl (any_of HT_.out (by kernel_rfl)) (fun _ _ _ h => h) (Or.inl ⟨by rfl, ?_⟩) ?_ ?_; rotate_left; intro w'; go_simp; with_reducible rfl; rotate_left; simp only [Act.put, sA, sZ, sS, i64_w, i32_w]; rfl
              refine take_ (i := 24) (N := some 68) (v := ?_) (a' := ?_) #[T, T, T, T, T, T, T, T, T, T, T, T, T, T, T, T, T, T, T, T, T, T, T, T, T, F, F, F, F] rfl rfl (take_ofW HT_.out HW_.out (by kernel_rfl)) (fun _ _ _ h => h) (Or.inl ⟨by rfl, ?_⟩) hHeld ?_ ?_; rotate_left; rintro w' ⟨s0, s1, s2, s3, s4, s5, s6, s7, s8, s9⟩; go_simp; with_reducible rfl; rotate_left; simp only [Act.put, sA, sZ, sS, i64_w, i32_w]; rfl
              refine pure_ (i := 25) (N := some 69) (v := ?_) (a' := ?_) #[T, T, T, T, T, T, T, T, T, T, T, T, T, T, T, T, T, T, T, T, T, T, T, T, T, T, F, F, F] rfl rfl (any_of HT_.out (by kernel_rfl)) (fun _ _ _ h => h) (Or.inl ⟨by rfl, ?_⟩) ?_ ?_; rotate_left; intro w'; go_simp; with_reducible rfl; rotate_left; simp only [Act.put, sA, sZ, sS, i64_w, i32_w]; rfl
              refine pure_ (i := 26) (N := some 70) (v := ?_) (a' := ?_) #[T, T, T, T, T, T, T, T, T, T, T, T, T, T, T, T, T, T, T, T, T, T, T, T, T, T, T, F, F] rfl rfl (any_of HT_.out (by kernel_rfl)) (fun _ _ _ h => h) (Or.inl ⟨by rfl, ?_⟩) ?_ ?_; rotate_left; intro w'; go_simp; with_reducible rfl; rotate_left; simp only [Act.put, sA, sZ, sS, i64_w, i32_w]; rfl
              refine pure_ (i := 27) (N := some 71) (v := ?_) (a' := ?_) #[T, T, T, T, T, T, T, T, T, T, T, T, T, T, T, T, T, T, T, T, T, T, T, T, T, T, T, T, F] rfl rfl (any_of HT_.out (by kernel_rfl)) (fun _ _ _ h => h) (Or.inl ⟨by rfl, ?_⟩) ?_ ?_; rotate_left; intro w'; go_simp; with_reducible rfl; rotate_left; simp only [Act.put, sA, sZ, sS, i64_w, i32_w]; rfl
              refine one_ (i := 28) (N := some 72) #[T, T, T, T, T, T, T, T, T, T, T, T, T, T, T, T, T, T, T, T, T, T, T, T, T, T, T, T, T] rfl rfl (one_of HT_.out (by kernel_rfl)) (by decide) (fun K hK => ?_)
              refine panics_ Try.func51 (by kernel_rfl) rfl #[.bool false, .int .i64 221] (by rfl) rfl rfl (by (try simp only [List.map_toArray, List.map_cons, List.map_nil]); first | done | rfl | (simp only [List.length_drop, List.length_take]; rfl)) ?_
              refine (proof_need.bad 221 _).mono ?_
              rintro e w' ⟨rfl, rfl⟩
              refine ⟨_, rfl, ?_⟩
              (repeat (first | refine panic_then ?_ | refine panic_block ?_))
              exact panic_body rfl (⟨Gave.no (by first | decide | assumption | (simp_all; done)) rfl, (bx BK161.out), (bx BK999.out), lb⟩)
              try go_wp2
           ·
            rw [if_neg c52] at H; have c52b0 : decide ((rd t171 x39_2) ≤ 0) = false := decide_eq_false c52; clear c52; replace H := ifd H; obtain ⟨c62b0, H⟩ := H
            by_cases c63 : (rd l1_1 x39_2) = 0
            ·
             rw [if_pos c63] at H; have c63b0 : ((rd l1_1 x39_2) == 0) = true := beq_iff_eq.mpr c63; have c63b1 : ((rd l1_1 x39_2) != 0) = false := bne_eq_false_iff_eq.mpr c63; clear c63
             by_cases c64 : (rd t171 x39_2) ≥ 0
             ·
              rw [if_pos c64] at H; have c64b0 := decide_eq_true c64; clear c64; have A65 := ak (show proof_need.f true 221 = some () from rfl); have H' := ak H; clear H; have p174 : 0 ≤ (x39_2 : Int) := oda; have q174 : x39_2 < (t171.length : Int) := oda; obtain ⟨ad174, e174, hx174_0⟩ := Kd.at_int (Kd.R_reads' HO_37.out).2.2 x39_2 p174 q174; cases e174; replace p174 := eq_true p174; replace q174 := eq_true q174
              try go_wp2
              have n0_ := ak (Kd.R_drew HO_37.out); have n1_ := ak (blk_drew BK159.out); have n2_ := ak (blk_drew BK160.out); have n3_ := ak (blk_drew BK161.out); have n4_ := ak (blk_drew BK999.out); have n5_ := ak (below_drew1 HB.out); clear HO_37; clear BK159; clear BK160; clear BK161; clear BK999; clear HB; have HO_37 := n0_; have BK159 := n1_; have BK160 := n2_; have BK161 := n3_; have BK999 := n4_; have HB := n5_; clear n0_ n1_ n2_ n3_ n4_ n5_; have p177 : 0 ≤ (x39_2 : Int) := oda; have q177 : x39_2 < (l1_1.length : Int) := oda; obtain ⟨ad177, e177, hx177_0⟩ := Kd.at_int HR1_1.out x39_2 p177 q177; have hw177_0 := hx177_0; cases e177
              (try replace hx177_0 := hbc HB hx177_0)
              replace p177 := eq_true p177; replace q177 := eq_true q177
              refine start_ (n := 29) (S := fun w' => w'.cell? ⟨gb160, 0, none⟩ = some (.slice A1_0 l1_0.length c1_0) ∧ w'.cell? ⟨gb160, 1, none⟩ = some (.slice (some ad177) l1_1.length c1_1) ∧ w'.cell? ⟨gb160, 2, none⟩ = some (.slice A1_2 l1_2.length c1_2) ∧ w'.cell? (ad177.add (x39_2).toNat) = some (.int .i64 (rd l1_1 x39_2))) (ds := []) #[F, F, F, F, F, F, F, F, F, F, F, F, F, F, F, F, F, F, F, F, F, F, F, F, F, F, F, F, F] (by kernel_rfl) rfl rfl ⟨(blk_cell BK160.out 0).trans rfl, (blk_cell BK160.out 1).trans rfl, (blk_cell BK160.out 2).trans rfl, ((HB.out.cell (World.block_lt_of_cell? w _ hw177_0)).trans hw177_0)⟩ (fun hHeld => ?_); refine with_tabW proof_Cheapest_1.tab10 proof_Cheapest_1.bits10 (fun HT_ HW_ => ?_)
              generalize wr.drew = w66 at HO_37 BK159 BK160 BK161 BK999 HB hx177_0 hHeld ⊢
              refine pure_ (i := 0) (N := some 44) (v := ?_) (a' := ?_) #[T, F, F, F, F, F, F, F, F, F, F, F, F, F, F, F, F, F, F, F, F, F, F, F, F, F, F, F, F] rfl rfl (any_of HT_.out (by kernel_rfl)) (fun _ _ _ h => h) (Or.inl ⟨by rfl, ?_⟩) ?_ ?_; rotate_left; intro w'; go_simp; with_reducible rfl; rotate_left; simp only [Act.put, sA, sZ, sS, i64_w, i32_w]; rfl
              refine pure_ (i := 1) (N := some 45) (v := ?_) (a' := ?_) #[T, T, F, F, F, F, F, F, F, F, F, F, F, F, F, F, F, F, F, F, F, F, F, F, F, F, F, F, F] rfl rfl (any_of HT_.out (by kernel_rfl)) (fun _ _ _ h => h) (Or.inl ⟨by rfl, ?_⟩) ?_ ?_; rotate_left; intro w'; go_simp; with_reducible rfl; rotate_left; simp only [Act.put, sA, sZ, sS, i64_w, i32_w]; rfl
              refine pure_ (i := 2) (N := some 46) (v := ?_) (a' := ?_) #[T, T, T, F, F, F, F, F, F, F, F, F, F, F, F, F, F, F, F, F, F, F, F, F, F, F, F, F, F] rfl rfl (any_of HT_.out (by kernel_rfl)) (fun _ _ _ h => h) (Or.inl ⟨by rfl, ?_⟩) ?_ ?_; rotate_left; intro w'; go_simp; with_reducible rfl; rotate_left; simp only [Act.put, sA, sZ, sS, i64_w, i32_w]; rfl
              refine pure_ (i := 3) (N := some 47) (v := ?_) (a' := ?_) #[T, T, T, T, F, F, F, F, F, F, F, F, F, F, F, F, F, F, F, F, F, F, F, F, F, F, F, F, F] rfl rfl (any_of HT_.out (by kernel_rfl)) (fun _ _ _ h => h) (Or.inl ⟨by rfl, ?_⟩) ?_ ?_; rotate_left; intro w'; go_simp; with_reducible rfl; rotate_left; simp only [Act.put, sA, sZ, sS, i64_w, i32_w]; rfl
              refine pure_ (i := 5) (N := some 49) (v := ?_) (a' := ?_) #[T, T, T, T, F, T, F, F, F, F, F, F, F, F, F, F, F, F, F, F, F, F, F, F, F, F, F, F, F] rfl rfl (any_of HT_.out (by kernel_rfl)) (fun _ _ _ h => h) (Or.inl ⟨by rfl, ?_⟩) ?_ ?_; rotate_left; intro w'; go_simp; with_reducible rfl; rotate_left; simp only [Act.put, sA, sZ, sS, i64_w, i32_w]; rfl
              refine take_ (i := 4) (N := some 48) (v := ?_) (a' := ?_) #[T, T, T, T, T, T, F, F, F, F, F, F, F, F, F, F, F, F, F, F, F, F, F, F, F, F, F, F, F] rfl rfl (take_ofW HT_.out HW_.out (by kernel_rfl)) (fun _ _ _ h => h) (Or.inl ⟨by rfl, ?_⟩) hHeld ?_ ?_; rotate_left; rintro w' ⟨s0, s1, s2, s3⟩; go_simp; with_reducible rfl; rotate_left; simp only [Act.put, sA, sZ, sS, i64_w, i32_w]; rfl
              refine pure_ (i := 6) (N := some 50) (v := ?_) (a' := ?_) #[T, T, T, T, T, T, T, F, F, F, F, F, F, F, F, F, F, F, F, F, F, F, F, F, F, F, F, F, F] rfl rfl (any_of HT_.out (by kernel_rfl)) (fun _ _ _ h => h) (Or.inl ⟨by rfl, ?_⟩) ?_ ?_; rotate_left; intro w'; go_simp; with_reducible rfl; rotate_left; simp only [Act.put, sA, sZ, sS, i64_w, i32_w]; rfl
              refine take_ (i := 7) (N := some 51) (v := ?_) (a' := ?_) #[T, T, T, T, T, T, T, T, F, F, F, F, F, F, F, F, F, F, F, F, F, F, F, F, F, F, F, F, F] rfl rfl (take_ofW HT_.out HW_.out (by kernel_rfl)) (fun _ _ _ h => h) (Or.inl ⟨by rfl, ?_⟩) hHeld ?_ ?_; rotate_left; rintro w' ⟨s0, s1, s2, s3⟩; go_simp; with_reducible rfl; rotate_left; simp only [Act.put, sA, sZ, sS, i64_w, i32_w]; rfl
              refine pure_ (i := 8) (N := some 52) (v := ?_) (a' := ?_) #[T, T, T, T, T, T, T, T, T, F, F, F, F, F, F, F, F, F, F, F, F, F, F, F, F, F, F, F, F] rfl rfl (any_of HT_.out (by kernel_rfl)) (fun _ _ _ h => h) (Or.inl ⟨by rfl, ?_⟩) ?_ ?_; rotate_left; intro w'; go_simp; with_reducible rfl; rotate_left; simp only [Act.put, sA, sZ, sS, i64_w, i32_w]; rfl
              refine pure_ (i := 9) (N := some 53) (v := ?_) (a' := ?_) #[T, T, T, T, T, T, T, T, T, T, F, F, F, F, F, F, F, F, F, F, F, F, F, F, F, F, F, F, F] rfl rfl (any_of HT_.out (by kernel_rfl)) (fun _ _ _ h => h) (Or.inl ⟨by rfl, ?_⟩) ?_ ?_; rotate_left; intro w'; go_simp; with_reducible rfl; rotate_left; simp only [Act.put, sA, sZ, sS, i64_w, i32_w]; rfl
              refine pure_ (i := 10) (N := some 54) (v := ?_) (a' := ?_) #[T, T, T, T, T, T, T, T, T, T, T, F, F, F, F, F, F, F, F, F, F, F, F, F, F, F, F, F, F] rfl rfl (any_of HT_.out (by kernel_rfl)) (fun _ _ _ h => h) (Or.inl ⟨by rfl, ?_⟩) ?_ ?_; rotate_left; intro w'; go_simp; with_reducible rfl; rotate_left; simp only [Act.put, sA, sZ, sS, i64_w, i32_w]; rfl
              refine pure_ (i := 11) (N := some 55) (v := ?_) (a' := ?_) #[T, T, T, T, T, T, T, T, T, T, T, T, F, F, F, F, F, F, F, F, F, F, F, F, F, F, F, F, F] rfl rfl (any_of HT_.out (by kernel_rfl)) (fun _ _ _ h => h) (Or.inl ⟨by rfl, ?_⟩) ?_ ?_; rotate_left; intro w'; go_simp; with_reducible rfl; rotate_left; simp only [Act.put, sA, sZ, sS, i64_w, i32_w]; rfl
              refine pure_ (i := 12) (N := some 56) (v := ?_) (a' := ?_) #[T, T, T, T, T, T, T, T, T, T, T, T, T, F, F, F, F, F, F, F, F, F, F, F, F, F, F, F, F] rfl rfl (any_of HT_.out (by kernel_rfl)) (fun _ _ _ h => h) (Or.inl ⟨by rfl, ?_⟩) ?_ ?_; rotate_left; intro w'; go_simp; with_reducible rfl; rotate_left; simp only [Act.put, sA, sZ, sS, i64_w, i32_w]; rfl
              refine pure_ (i := 13) (N := some 57) (v := ?_) (a' := ?_) #[T, T, T, T, T, T, T, T, T, T, T, T, T, T, F, F, F, F, F, F, F, F, F, F, F, F, F, F, F] rfl rfl (any_of HT_.out (by kernel_rfl)) (fun _ _ _ h => h) (Or.inl ⟨by rfl, ?_⟩) ?_ ?_; rotate_left; intro w'; go_simp; with_reducible rfl; rotate_left; simp only [Act.put, sA, sZ, sS, i64_w, i32_w]; rfl
              refine pure_ (i := 14) (N := some 58) (v := undef) (a' := ?_) #[T, T, T, T, T, T, T, T, T, T, T, T, T, T, T, F, F, F, F, F, F, F, F, F, F, F, F, F, F] rfl rfl (any_of HT_.out (by kernel_rfl)) (fun _ _ _ h => h) (Or.inr ⟨by rfl, rfl⟩) ?_ ?_
              rotate_left
              ·
               simp only [Act.put, sA, sZ, sS, i64_w, i32_w]
               rfl
              refine pure_ (i := 15) (N := some 59) (v := undef) (a' := ?_) #[T, T, T, T, T, T, T, T, T, T, T, T, T, T, T, T, F, F, F, F, F, F, F, F, F, F, F, F, F] rfl rfl (any_of HT_.out (by kernel_rfl)) (fun _ _ _ h => h) (Or.inr ⟨by rfl, rfl⟩) ?_ ?_
              rotate_left
              ·
               simp only [Act.put, sA, sZ, sS, i64_w, i32_w]
               rfl
              refine pure_ (i := 16) (N := some 60) (v := undef) (a' := ?_) #[T, T, T, T, T, T, T, T, T, T, T, T, T, T, T, T, T, F, F, F, F, F, F, F, F, F, F, F, F] rfl rfl (any_of HT_.out (by kernel_rfl)) (fun _ _ _ h => h) (Or.inr ⟨by rfl, rfl⟩) ?_ ?_
              rotate_left
              ·
               simp only [Act.put, sA, sZ, sS, i64_w, i32_w]
               rfl
              refine pure_ (i := 17) (N := some 61) (v := undef) (a' := ?_) #[T, T, T, T, T, T, T, T, T, T, T, T, T, T, T, T, T, T, F, F, F, F, F, F, F, F, F, F, F] rfl rfl (any_of HT_.out (by kernel_rfl)) (fun _ _ _ h => h) (Or.inr ⟨by rfl, rfl⟩) ?_ ?_
              rotate_left
              ·
               simp only [Act.put, sA, sZ, sS, i64_w, i32_w]
               rfl
              refine pure_ (i := 18) (N := some 62) (v := undef) (a' := ?_) #[T, T, T, T, T, T, T, T, T, T, T, T, T, T, T, T, T, T, T, F, F, F, F, F, F, F, F, F, F] rfl rfl (any_of HT_.out (by kernel_rfl)) (fun _ _ _ h => h) (Or.inr ⟨by rfl, rfl⟩) ?_ ?_
              rotate_left
              ·
               simp only [Act.put, sA, sZ, sS, i64_w, i32_w]
               rfl
              refine pure_ (i := 19) (N := some 63) (v := undef) (a' := ?_) #[T, T, T, T, T, T, T, T, T, T, T, T, T, T, T, T, T, T, T, T, F, F, F, F, F, F, F, F, F] rfl rfl (any_of HT_.out (by kernel_rfl)) (fun _ _ _ h => h) (Or.inr ⟨by rfl, rfl⟩) ?_ ?_
              rotate_left
              ·
               simp only [Act.put, sA, sZ, sS, i64_w, i32_w]
               rfl
              refine pure_ (i := 20) (N := some 64) (v := undef) (a' := ?_) #[T, T, T, T, T, T, T, T, T, T, T, T, T, T, T, T, T, T, T, T, T, F, F, F, F, F, F, F, F] rfl rfl (any_of HT_.out (by kernel_rfl)) (fun _ _ _ h => h) (Or.inr ⟨by rfl, rfl⟩) ?_ ?_
              rotate_left
              ·
               simp only [Act.put, sA, sZ, sS, i64_w, i32_w]
               rfl
              refine pure_ (i := 21) (N := some 65) (v := undef) (a' := ?_) #[T, T, T, T, T, T, T, T, T, T, T, T, T, T, T, T, T, T, T, T, T, T, F, F, F, F, F, F, F] rfl rfl (any_of HT_.out (by kernel_rfl)) (fun _ _ _ h => h) (Or.inr ⟨by rfl, rfl⟩) ?_ ?_
              rotate_left
              ·
               simp only [Act.put, sA, sZ, sS, i64_w, i32_w]
               rfl
              refine pure_ (i := 22) (N := some 66) (v := undef) (a' := ?_) #[T, T, T, T, T, T, T, T, T, T, T, T, T, T, T, T, T, T, T, T, T, T, T, F, F, F, F, F, F] rfl rfl (any_of HT_.out (by kernel_rfl)) (fun _ _ _ h => h) (Or.inr ⟨by rfl, rfl⟩) ?_ ?_
              rotate_left
              ·
               simp only [Act.put, sA, sZ, sS, i64_w, i32_w]
               rfl
              refine pure_ (i := 23) (N := some 67) (v := undef) (a' := ?_) #[T, T, T, T, T, T, T, T, T, T, T, T, T, T, T, T, T, T, T, T, T, T, T, T, F, F, F, F, F] rfl rfl (any_of HT_.out (by kernel_rfl)) (fun _ _ _ h => h) (Or.inr ⟨by rfl, rfl⟩) ?_ ?_
              rotate_left
              ·
               simp only [Act.put, sA, sZ, sS, i64_w, i32_w]
               rfl
              refine pure_ (i := 24) (N := some 68) (v := undef) (a' := ?_) #[T, T, T, T, T, T, T, T, T, T, T, T, T, T, T, T, T, T, T, T, T, T, T, T, T, F, F, F, F] rfl rfl (any_of HT_.out (by kernel_rfl)) (fun _ _ _ h => h) (Or.inr ⟨by rfl, rfl⟩) ?_ ?_
              rotate_left
              ·
               simp only [Act.put, sA, sZ, sS, i64_w, i32_w]
               rfl
              refine pure_ (i := 25) (N := some 69) (v := undef) (a' := ?_) #[T, T, T, T, T, T, T, T, T, T, T, T, T, T, T, T, T, T, T, T, T, T, T, T, T, T, F, F, F] rfl rfl (any_of HT_.out (by kernel_rfl)) (fun _ _ _ h => h) (Or.inr ⟨by rfl, rfl⟩) ?_ ?_
              rotate_left
              ·
               simp only [Act.put, sA, sZ, sS, i64_w, i32_w]
               rfl
              refine pure_ (i := 26) (N := some 70) (v := ?_) (a' := ?_) #[T, T, T, T, T, T, T, T, T, T, T, T, T, T, T, T, T, T, T, T, T, T, T, T, T, T, T, F, F] rfl rfl (any_of HT_.out (by kernel_rfl)) (fun _ _ _ h => h) (Or.inl ⟨by rfl, ?_⟩) ?_ ?_; rotate_left; intro w'; go_simp; with_reducible rfl; rotate_left; simp only [Act.put, sA, sZ, sS, i64_w, i32_w]; rfl
              refine pure_ (i := 27) (N := some 71) (v := ?_) (a' := ?_) #[T, T, T, T, T, T, T, T, T, T, T, T, T, T, T, T, T, T, T, T, T, T, T, T, T, T, T, T, F] rfl rfl (any_of HT_.out (by kernel_rfl)) (fun _ _ _ h => h) (Or.inl ⟨by rfl, ?_⟩) ?_ ?_; rotate_left; intro w'; go_simp; with_reducible rfl; rotate_left; simp only [Act.put, sA, sZ, sS, i64_w, i32_w]; rfl
              refine one_ (i := 28) (N := some 72) #[T, T, T, T, T, T, T, T, T, T, T, T, T, T, T, T, T, T, T, T, T, T, T, T, T, T, T, T, T] rfl rfl (one_of HT_.out (by kernel_rfl)) (by decide) (fun K hK => ?_)
              refine goes_ Try.func51 (by kernel_rfl) rfl #[.bool true, .int .i64 221] (by rfl) rfl rfl (by (try simp only [List.map_toArray, List.map_cons, List.map_nil]); first | done | rfl | (simp only [List.length_drop, List.length_take]; rfl)) ?_
              with_reducible refine (proof_need.calls true 221  _ A65.out).mono ?_
              rintro e w' ⟨rfl, ⟨nd, rfl⟩⟩
              refine ⟨_, rfl, ?_⟩
              refine hK.out _ _ ⟨(blk_cell BK160.out 0).trans rfl, (blk_cell BK160.out 1).trans rfl, (blk_cell BK160.out 2).trans rfl, ((HB.out.cell (World.block_lt_of_cell? w _ hw177_0)).trans hw177_0)⟩ (fun hHeld => ?_)
              clear hK K
              refine norm_ (a' := ?_) ?_ ?_
              rotate_left
              ·
               show Act.put _ (some 72) _ = _
               simp only [Act.put, sA, sZ, sS, i64_w, i32_w]
               rfl
              refine done_ (done_of HT_.out (by kernel_rfl)) ?_
              try go_wp2
              go_roundg k2
              case measure => have := HK1.out; have := HK2.out; omega
              case rel => exact ⟨(wrap64 (x39_2 + 1)), (by first | rfl | (simp [*]; done)), H', ⟨by have := HK1.out; have := HK2.out; omega⟩, ⟨rx HO_37.out⟩, ⟨bx BK159.out⟩, ⟨bx BK160.out⟩, ⟨bx BK161.out⟩, ⟨bx BK999.out⟩, ⟨lb⟩⟩
             ·
              rw [if_neg c64] at H; have c64b0 : decide (0 ≤ (rd t171 x39_2)) = false := decide_eq_false c64; clear c64; replace H := ifd H; obtain ⟨c67b0, H⟩ := H
              by_cases c68 : (rd l1_1 x39_2) = ((rd_T98 l0_1 x39_2).f2)
              ·
               rw [if_pos c68] at H; have c68b0 : ((rd l1_1 x39_2) == ((rd_T98 l0_1 x39_2).f2)) = true := beq_iff_eq.mpr c68; have c68b1 : ((rd l1_1 x39_2) != ((rd_T98 l0_1 x39_2).f2)) = false := bne_eq_false_iff_eq.mpr c68; clear c68; have A69 := ak (show proof_need.f true 221 = some () from rfl); have H' := ak H; clear H; have p174 : 0 ≤ (x39_2 : Int) := oda; have q174 : x39_2 < (t171.length : Int) := oda; obtain ⟨ad174, e174, hx174_0⟩ := Kd.at_int (Kd.R_reads' HO_37.out).2.2 x39_2 p174 q174; cases e174; replace p174 := eq_true p174; replace q174 := eq_true q174
               try go_wp2
               have n0_ := ak (Kd.R_drew HO_37.out); have n1_ := ak (blk_drew BK159.out); have n2_ := ak (blk_drew BK160.out); have n3_ := ak (blk_drew BK161.out); have n4_ := ak (blk_drew BK999.out); have n5_ := ak (below_drew1 HB.out); clear HO_37; clear BK159; clear BK160; clear BK161; clear BK999; clear HB; have HO_37 := n0_; have BK159 := n1_; have BK160 := n2_; have BK161 := n3_; have BK999 := n4_; have HB := n5_; clear n0_ n1_ n2_ n3_ n4_ n5_; have p177 : 0 ≤ (x39_2 : Int) := oda; have q177 : x39_2 < (l1_1.length : Int) := oda; obtain ⟨ad177, e177, hx177_0⟩ := Kd.at_int HR1_1.out x39_2 p177 q177; have hw177_0 := hx177_0; cases e177
               (try replace hx177_0 := hbc HB hx177_0)
               replace p177 := eq_true p177; replace q177 := eq_true q177; have p178 : 0 ≤ (x39_2 : Int) := oda; have q178 : x39_2 < (l1_1.length : Int) := oda; obtain ⟨ad178, e178, hx178_0⟩ := Kd.at_int HR1_1.out x39_2 p178 q178; have hw178_0 := hx178_0
               obtain rfl : ad177 = ad178 := (by injection e178)
               (try replace hx178_0 := hbc HB hx178_0)
               replace p178 := eq_true p178; replace q178 := eq_true q178; have p179 : 0 ≤ (x39_2 : Int) := oda; have q179 : x39_2 < (l0_1.length : Int) := oda; obtain ⟨ad179, e179, hx179_0, hx179_1, hx179_2, hx179_3⟩ := at_T98 HR0_1.out x39_2 p179 q179; have hw179_3 := hx179_3; have hw179_2 := hx179_2; have hw179_1 := hx179_1; have hw179_0 := hx179_0; cases e179
               (try replace hx179_0 := hbc HB hx179_0)
               (try replace hx179_1 := hbc HB hx179_1)
               (try replace hx179_2 := hbc HB hx179_2)
               (try replace hx179_3 := hbc HB hx179_3)
               replace p179 := eq_true p179; replace q179 := eq_true q179
               refine start_ (n := 29) (S := fun w' => w'.cell? ⟨gb160, 0, none⟩ = some (.slice A1_0 l1_0.length c1_0) ∧ w'.cell? ⟨gb160, 1, none⟩ = some (.slice (some ad177) l1_1.length c1_1) ∧ w'.cell? ⟨gb160, 2, none⟩ = some (.slice A1_2 l1_2.length c1_2) ∧ w'.cell? ⟨gb159, 0, none⟩ = some (.int .i64 a0_0) ∧ w'.cell? ⟨gb159, 1, none⟩ = some (.slice (some ad179) l0_1.length c0_1) ∧ w'.cell? (ad177.add (x39_2).toNat) = some (.int .i64 (rd l1_1 x39_2)) ∧ w'.cell? (ad177.add (x39_2).toNat) = some (.int .i64 (rd l1_1 x39_2)) ∧ w'.cell? (ad179.add ((x39_2).toNat * 4)) = some (.int .i64 ((rd_T98 l0_1 x39_2).f0)) ∧ w'.cell? ⟨(ad179.add ((x39_2).toNat * 4)).block, (ad179.add ((x39_2).toNat * 4)).off + 1, none⟩ = some (.int .i64 ((rd_T98 l0_1 x39_2).f1)) ∧ w'.cell? ⟨(ad179.add ((x39_2).toNat * 4)).block, (ad179.add ((x39_2).toNat * 4)).off + 2, none⟩ = some (.int .i64 ((rd_T98 l0_1 x39_2).f2)) ∧ w'.cell? ⟨(ad179.add ((x39_2).toNat * 4)).block, (ad179.add ((x39_2).toNat * 4)).off + 3, none⟩ = some (.int .i64 ((rd_T98 l0_1 x39_2).f3))) (ds := []) #[F, F, F, F, F, F, F, F, F, F, F, F, F, F, F, F, F, F, F, F, F, F, F, F, F, F, F, F, F] (by kernel_rfl) rfl rfl ⟨(blk_cell BK160.out 0).trans rfl, (blk_cell BK160.out 1).trans rfl, (blk_cell BK160.out 2).trans rfl, (blk_cell BK159.out 0).trans rfl, (blk_cell BK159.out 1).trans rfl, ((HB.out.cell (World.block_lt_of_cell? w _ hw177_0)).trans hw177_0), ((HB.out.cell (World.block_lt_of_cell? w _ hw178_0)).trans hw178_0), ((HB.out.cell (World.block_lt_of_cell? w _ hw179_0)).trans hw179_0), ((HB.out.cell (World.block_lt_of_cell? w _ hw179_1)).trans hw179_1), ((HB.out.cell (World.block_lt_of_cell? w _ hw179_2)).trans hw179_2), ((HB.out.cell (World.block_lt_of_cell? w _ hw179_3)).trans hw179_3)⟩ (fun hHeld => ?_); refine with_tabW proof_Cheapest_1.tab10 proof_Cheapest_1.bits10 (fun HT_ HW_ => ?_)
               generalize wr.drew = w70 at HO_37 BK159 BK160 BK161 BK999 HB hx177_0 hx178_0 hx179_0 hx179_1 hx179_2 hx179_3 hHeld ⊢
               refine pure_ (i := 0) (N := some 44) (v := ?_) (a' := ?_) #[T, F, F, F, F, F, F, F, F, F, F, F, F, F, F, F, F, F, F, F, F, F, F, F, F, F, F, F, F] rfl rfl (any_of HT_.out (by kernel_rfl)) (fun _ _ _ h => h) (Or.inl ⟨by rfl, ?_⟩) ?_ ?_; rotate_left; intro w'; go_simp; with_reducible rfl; rotate_left; simp only [Act.put, sA, sZ, sS, i64_w, i32_w]; rfl
               refine pure_ (i := 1) (N := some 45) (v := ?_) (a' := ?_) #[T, T, F, F, F, F, F, F, F, F, F, F, F, F, F, F, F, F, F, F, F, F, F, F, F, F, F, F, F] rfl rfl (any_of HT_.out (by kernel_rfl)) (fun _ _ _ h => h) (Or.inl ⟨by rfl, ?_⟩) ?_ ?_; rotate_left; intro w'; go_simp; with_reducible rfl; rotate_left; simp only [Act.put, sA, sZ, sS, i64_w, i32_w]; rfl
               refine pure_ (i := 2) (N := some 46) (v := ?_) (a' := ?_) #[T, T, T, F, F, F, F, F, F, F, F, F, F, F, F, F, F, F, F, F, F, F, F, F, F, F, F, F, F] rfl rfl (any_of HT_.out (by kernel_rfl)) (fun _ _ _ h => h) (Or.inl ⟨by rfl, ?_⟩) ?_ ?_; rotate_left; intro w'; go_simp; with_reducible rfl; rotate_left; simp only [Act.put, sA, sZ, sS, i64_w, i32_w]; rfl
               refine pure_ (i := 3) (N := some 47) (v := ?_) (a' := ?_) #[T, T, T, T, F, F, F, F, F, F, F, F, F, F, F, F, F, F, F, F, F, F, F, F, F, F, F, F, F] rfl rfl (any_of HT_.out (by kernel_rfl)) (fun _ _ _ h => h) (Or.inl ⟨by rfl, ?_⟩) ?_ ?_; rotate_left; intro w'; go_simp; with_reducible rfl; rotate_left; simp only [Act.put, sA, sZ, sS, i64_w, i32_w]; rfl
               refine pure_ (i := 5) (N := some 49) (v := ?_) (a' := ?_) #[T, T, T, T, F, T, F, F, F, F, F, F, F, F, F, F, F, F, F, F, F, F, F, F, F, F, F, F, F] rfl rfl (any_of HT_.out (by kernel_rfl)) (fun _ _ _ h => h) (Or.inl ⟨by rfl, ?_⟩) ?_ ?_; rotate_left; intro w'; go_simp; with_reducible rfl; rotate_left; simp only [Act.put, sA, sZ, sS, i64_w, i32_w]; rfl
               refine take_ (i := 4) (N := some 48) (v := ?_) (a' := ?_) #[T, T, T, T, T, T, F, F, F, F, F, F, F, F, F, F, F, F, F, F, F, F, F, F, F, F, F, F, F] rfl rfl (take_ofW HT_.out HW_.out (by kernel_rfl)) (fun _ _ _ h => h) (Or.inl ⟨by rfl, ?_⟩) hHeld ?_ ?_; rotate_left; rintro w' ⟨s0, s1, s2, s3, s4, s5, s6, s7, s8, s9, s10⟩; go_simp; with_reducible rfl; rotate_left; simp only [Act.put, sA, sZ, sS, i64_w, i32_w]; rfl
               refine pure_ (i := 6) (N := some 50) (v := ?_) (a' := ?_) #[T, T, T, T, T, T, T, F, F, F, F, F, F, F, F, F, F, F, F, F, F, F, F, F, F, F, F, F, F] rfl rfl (any_of HT_.out (by kernel_rfl)) (fun _ _ _ h => h) (Or.inl ⟨by rfl, ?_⟩) ?_ ?_; rotate_left; intro w'; go_simp; with_reducible rfl; rotate_left; simp only [Act.put, sA, sZ, sS, i64_w, i32_w]; rfl
               refine take_ (i := 7) (N := some 51) (v := ?_) (a' := ?_) #[T, T, T, T, T, T, T, T, F, F, F, F, F, F, F, F, F, F, F, F, F, F, F, F, F, F, F, F, F] rfl rfl (take_ofW HT_.out HW_.out (by kernel_rfl)) (fun _ _ _ h => h) (Or.inl ⟨by rfl, ?_⟩) hHeld ?_ ?_; rotate_left; rintro w' ⟨s0, s1, s2, s3, s4, s5, s6, s7, s8, s9, s10⟩; go_simp; with_reducible rfl; rotate_left; simp only [Act.put, sA, sZ, sS, i64_w, i32_w]; rfl
               refine pure_ (i := 8) (N := some 52) (v := ?_) (a' := ?_) #[T, T, T, T, T, T, T, T, T, F, F, F, F, F, F, F, F, F, F, F, F, F, F, F, F, F, F, F, F] rfl rfl (any_of HT_.out (by kernel_rfl)) (fun _ _ _ h => h) (Or.inl ⟨by rfl, ?_⟩) ?_ ?_; rotate_left; intro w'; go_simp; with_reducible rfl; rotate_left; simp only [Act.put, sA, sZ, sS, i64_w, i32_w]; rfl
               refine pure_ (i := 9) (N := some 53) (v := ?_) (a' := ?_) #[T, T, T, T, T, T, T, T, T, T, F, F, F, F, F, F, F, F, F, F, F, F, F, F, F, F, F, F, F] rfl rfl (any_of HT_.out (by kernel_rfl)) (fun _ _ _ h => h) (Or.inl ⟨by rfl, ?_⟩) ?_ ?_; rotate_left; intro w'; go_simp; with_reducible rfl; rotate_left; simp only [Act.put, sA, sZ, sS, i64_w, i32_w]; rfl
               refine pure_ (i := 10) (N := some 54) (v := ?_) (a' := ?_) #[T, T, T, T, T, T, T, T, T, T, T, F, F, F, F, F, F, F, F, F, F, F, F, F, F, F, F, F, F] rfl rfl (any_of HT_.out (by kernel_rfl)) (fun _ _ _ h => h) (Or.inl ⟨by rfl, ?_⟩) ?_ ?_; rotate_left; intro w'; go_simp; with_reducible rfl; rotate_left; simp only [Act.put, sA, sZ, sS, i64_w, i32_w]; rfl
               refine pure_ (i := 11) (N := some 55) (v := ?_) (a' := ?_) #[T, T, T, T, T, T, T, T, T, T, T, T, F, F, F, F, F, F, F, F, F, F, F, F, F, F, F, F, F] rfl rfl (any_of HT_.out (by kernel_rfl)) (fun _ _ _ h => h) (Or.inl ⟨by rfl, ?_⟩) ?_ ?_; rotate_left; intro w'; go_simp; with_reducible rfl; rotate_left; simp only [Act.put, sA, sZ, sS, i64_w, i32_w]; rfl
               refine pure_ (i := 12) (N := some 56) (v := ?_) (a' := ?_) #[T, T, T, T, T, T, T, T, T, T, T, T, T, F, F, F, F, F, F, F, F, F, F, F, F, F, F, F, F] rfl rfl (any_of HT_.out (by kernel_rfl)) (fun _ _ _ h => h) (Or.inl ⟨by rfl, ?_⟩) ?_ ?_; rotate_left; intro w'; go_simp; with_reducible rfl; rotate_left; simp only [Act.put, sA, sZ, sS, i64_w, i32_w]; rfl
               refine pure_ (i := 13) (N := some 57) (v := ?_) (a' := ?_) #[T, T, T, T, T, T, T, T, T, T, T, T, T, T, F, F, F, F, F, F, F, F, F, F, F, F, F, F, F] rfl rfl (any_of HT_.out (by kernel_rfl)) (fun _ _ _ h => h) (Or.inl ⟨by rfl, ?_⟩) ?_ ?_; rotate_left; intro w'; go_simp; with_reducible rfl; rotate_left; simp only [Act.put, sA, sZ, sS, i64_w, i32_w]; rfl
               refine pure_ (i := 14) (N := some 58) (v := ?_) (a' := ?_) #[T, T, T, T, T, T, T, T, T, T, T, T, T, T, T, F, F, F, F, F, F, F, F, F, F, F, F, F, F] rfl rfl (any_of HT_.out (by kernel_rfl)) (fun _ _ _ h => h) (Or.inl ⟨by rfl, ?_⟩) ?_ ?_; rotate_left; intro w'; go_simp; with_reducible rfl; rotate_left; simp only [Act.put, sA, sZ, sS, i64_w, i32_w]; rfl
               refine pure_ (i := 16) (N := some 60) (v := ?_) (a' := ?_) #[T, T, T, T, T, T, T, T, T, T, T, T, T, T, T, F, T, F, F, F, F, F, F, F, F, F, F, F, F] rfl rfl (any_of HT_.out (by kernel_rfl)) (fun _ _ _ h => h) (Or.inl ⟨by rfl, ?_⟩) ?_ ?_; rotate_left; intro w'; go_simp; with_reducible rfl; rotate_left; simp only [Act.put, sA, sZ, sS, i64_w, i32_w]; rfl
               refine pure_ (i := 19) (N := some 63) (v := ?_) (a' := ?_) #[T, T, T, T, T, T, T, T, T, T, T, T, T, T, T, F, T, F, F, T, F, F, F, F, F, F, F, F, F] rfl rfl (any_of HT_.out (by kernel_rfl)) (fun _ _ _ h => h) (Or.inl ⟨by rfl, ?_⟩) ?_ ?_; rotate_left; intro w'; go_simp; with_reducible rfl; rotate_left; simp only [Act.put, sA, sZ, sS, i64_w, i32_w]; rfl
               refine pure_ (i := 21) (N := some 65) (v := ?_) (a' := ?_) #[T, T, T, T, T, T, T, T, T, T, T, T, T, T, T, F, T, F, F, T, F, T, F, F, F, F, F, F, F] rfl rfl (any_of HT_.out (by kernel_rfl)) (fun _ _ _ h => h) (Or.inl ⟨by rfl, ?_⟩) ?_ ?_; rotate_left; intro w'; go_simp; with_reducible rfl; rotate_left; simp only [Act.put, sA, sZ, sS, i64_w, i32_w]; rfl
               refine take_ (i := 15) (N := some 59) (v := ?_) (a' := ?_) #[T, T, T, T, T, T, T, T, T, T, T, T, T, T, T, T, T, F, F, T, F, T, F, F, F, F, F, F, F] rfl rfl (take_ofW HT_.out HW_.out (by kernel_rfl)) (fun _ _ _ h => h) (Or.inl ⟨by rfl, ?_⟩) hHeld ?_ ?_; rotate_left; rintro w' ⟨s0, s1, s2, s3, s4, s5, s6, s7, s8, s9, s10⟩; go_simp; with_reducible rfl; rotate_left; simp only [Act.put, sA, sZ, sS, i64_w, i32_w]; rfl
               refine pure_ (i := 17) (N := some 61) (v := ?_) (a' := ?_) #[T, T, T, T, T, T, T, T, T, T, T, T, T, T, T, T, T, T, F, T, F, T, F, F, F, F, F, F, F] rfl rfl (any_of HT_.out (by kernel_rfl)) (fun _ _ _ h => h) (Or.inl ⟨by rfl, ?_⟩) ?_ ?_; rotate_left; intro w'; go_simp; with_reducible rfl; rotate_left; simp only [Act.put, sA, sZ, sS, i64_w, i32_w]; rfl
               refine take_ (i := 18) (N := some 62) (v := ?_) (a' := ?_) #[T, T, T, T, T, T, T, T, T, T, T, T, T, T, T, T, T, T, T, T, F, T, F, F, F, F, F, F, F] rfl rfl (take_ofW HT_.out HW_.out (by kernel_rfl)) (fun _ _ _ h => h) (Or.inl ⟨by rfl, ?_⟩) hHeld ?_ ?_; rotate_left; rintro w' ⟨s0, s1, s2, s3, s4, s5, s6, s7, s8, s9, s10⟩; go_simp; with_reducible rfl; rotate_left; simp only [Act.put, sA, sZ, sS, i64_w, i32_w]; rfl
               refine take_ (i := 20) (N := some 64) (v := ?_) (a' := ?_) #[T, T, T, T, T, T, T, T, T, T, T, T, T, T, T, T, T, T, T, T, T, T, F, F, F, F, F, F, F] rfl rfl (take_ofW HT_.out HW_.out (by kernel_rfl)) (fun _ _ _ h => h) (Or.inl ⟨by rfl, ?_⟩) hHeld ?_ ?_; rotate_left; rintro w' ⟨s0, s1, s2, s3, s4, s5, s6, s7, s8, s9, s10⟩; go_simp; with_reducible rfl; rotate_left; simp only [Act.put, sA, sZ, sS, i64_w, i32_w]; rfl
               refine pure_ (i := 22) (N := some 66) (v := ?_) (a' := ?_) #[T, T, T, T, T, T, T, T, T, T, T, T, T, T, T, T, T, T, T, T, T, T, T, F, F, F, F, F, F] rfl rfl (any_of HT_.out (by kernel_rfl)) (fun _ _ _ h => h) (Or.inl ⟨by rfl, ?_⟩) ?_ ?_; rotate_left; intro w'; go_simp; with_reducible rfl; rotate_left; simp only [Act.put, sA, sZ, sS, i64_w, i32_w]; rfl
               refine pure_ (i := 23) (N := some 67) (v := ?_) (a' := ?_) #[T, T, T, T, T, T, T, T, T, T, T, T, T, T, T, T, T, T, T, T, T, T, T, T, F, F, F, F, F] rfl rfl (any_of HT_.out (by kernel_rfl)) (fun _ _ _ h => h) (Or.inl ⟨by rfl, ?_⟩) ?_ ?_; rotate_left; intro w'; go_simp; with_reducible rfl; rotate_left; simp only [Act.put, sA, sZ, sS, i64_w, i32_w]; rfl
               refine take_ (i := 24) (N := some 68) (v := ?_) (a' := ?_) #[T, T, T, T, T, T, T, T, T, T, T, T, T, T, T, T, T, T, T, T, T, T, T, T, T, F, F, F, F] rfl rfl (take_ofW HT_.out HW_.out (by kernel_rfl)) (fun _ _ _ h => h) (Or.inl ⟨by rfl, ?_⟩) hHeld ?_ ?_; rotate_left; rintro w' ⟨s0, s1, s2, s3, s4, s5, s6, s7, s8, s9, s10⟩; go_simp; with_reducible rfl; rotate_left; simp only [Act.put, sA, sZ, sS, i64_w, i32_w]; rfl
               refine pure_ (i := 25) (N := some 69) (v := ?_) (a' := ?_) #[T, T, T, T, T, T, T, T, T, T, T, T, T, T, T, T, T, T, T, T, T, T, T, T, T, T, F, F, F] rfl rfl (any_of HT_.out (by kernel_rfl)) (fun _ _ _ h => h) (Or.inl ⟨by rfl, ?_⟩) ?_ ?_; rotate_left; intro w'; go_simp; with_reducible rfl; rotate_left; simp only [Act.put, sA, sZ, sS, i64_w, i32_w]; rfl
               refine pure_ (i := 26) (N := some 70) (v := ?_) (a' := ?_) #[T, T, T, T, T, T, T, T, T, T, T, T, T, T, T, T, T, T, T, T, T, T, T, T, T, T, T, F, F] rfl rfl (any_of HT_.out (by kernel_rfl)) (fun _ _ _ h => h) (Or.inl ⟨by rfl, ?_⟩) ?_ ?_; rotate_left; intro w'; go_simp; with_reducible rfl; rotate_left; simp only [Act.put, sA, sZ, sS, i64_w, i32_w]; rfl
               refine pure_ (i := 27) (N := some 71) (v := ?_) (a' := ?_) #[T, T, T, T, T, T, T, T, T, T, T, T, T, T, T, T, T, T, T, T, T, T, T, T, T, T, T, T, F] rfl rfl (any_of HT_.out (by kernel_rfl)) (fun _ _ _ h => h) (Or.inl ⟨by rfl, ?_⟩) ?_ ?_; rotate_left; intro w'; go_simp; with_reducible rfl; rotate_left; simp only [Act.put, sA, sZ, sS, i64_w, i32_w]; rfl
               refine one_ (i := 28) (N := some 72) #[T, T, T, T, T, T, T, T, T, T, T, T, T, T, T, T, T, T, T, T, T, T, T, T, T, T, T, T, T] rfl rfl (one_of HT_.out (by kernel_rfl)) (by decide) (fun K hK => ?_)
               refine goes_ Try.func51 (by kernel_rfl) rfl #[.bool true, .int .i64 221] (by rfl) rfl rfl (by (try simp only [List.map_toArray, List.map_cons, List.map_nil]); first | done | rfl | (simp only [List.length_drop, List.length_take]; rfl)) ?_
               with_reducible refine (proof_need.calls true 221  _ A69.out).mono ?_
               rintro e w' ⟨rfl, ⟨nd, rfl⟩⟩
               refine ⟨_, rfl, ?_⟩
               refine hK.out _ _ ⟨(blk_cell BK160.out 0).trans rfl, (blk_cell BK160.out 1).trans rfl, (blk_cell BK160.out 2).trans rfl, (blk_cell BK159.out 0).trans rfl, (blk_cell BK159.out 1).trans rfl, ((HB.out.cell (World.block_lt_of_cell? w _ hw177_0)).trans hw177_0), ((HB.out.cell (World.block_lt_of_cell? w _ hw178_0)).trans hw178_0), ((HB.out.cell (World.block_lt_of_cell? w _ hw179_0)).trans hw179_0), ((HB.out.cell (World.block_lt_of_cell? w _ hw179_1)).trans hw179_1), ((HB.out.cell (World.block_lt_of_cell? w _ hw179_2)).trans hw179_2), ((HB.out.cell (World.block_lt_of_cell? w _ hw179_3)).trans hw179_3)⟩ (fun hHeld => ?_)
               clear hK K
               refine norm_ (a' := ?_) ?_ ?_
               rotate_left
               ·
                show Act.put _ (some 72) _ = _
                simp only [Act.put, sA, sZ, sS, i64_w, i32_w]
                rfl
               refine done_ (done_of HT_.out (by kernel_rfl)) ?_
               try go_wp2
               go_roundg k2
               case measure => have := HK1.out; have := HK2.out; omega
               case rel => exact ⟨(wrap64 (x39_2 + 1)), (by first | rfl | (simp [*]; done)), H', ⟨by have := HK1.out; have := HK2.out; omega⟩, ⟨rx HO_37.out⟩, ⟨bx BK159.out⟩, ⟨bx BK160.out⟩, ⟨bx BK161.out⟩, ⟨bx BK999.out⟩, ⟨lb⟩⟩
              ·
               rw [if_neg c68] at H; have c68b0 : ((rd l1_1 x39_2) == ((rd_T98 l0_1 x39_2).f2)) = false := beq_eq_false_iff_ne.mpr c68; have c68b1 : ((rd l1_1 x39_2) != ((rd_T98 l0_1 x39_2).f2)) = true := bne_iff_ne.mpr c68
               simp only [Option.some.injEq, Prod.mk.injEq] at H
               obtain ⟨rfl, rfl⟩ := H; have p174 : 0 ≤ (x39_2 : Int) := oda; have q174 : x39_2 < (t171.length : Int) := oda; obtain ⟨ad174, e174, hx174_0⟩ := Kd.at_int (Kd.R_reads' HO_37.out).2.2 x39_2 p174 q174; cases e174; replace p174 := eq_true p174; replace q174 := eq_true q174
               try go_wp2
               have n0_ := ak (Kd.R_drew HO_37.out); have n1_ := ak (blk_drew BK159.out); have n2_ := ak (blk_drew BK160.out); have n3_ := ak (blk_drew BK161.out); have n4_ := ak (blk_drew BK999.out); have n5_ := ak (below_drew1 HB.out); clear HO_37; clear BK159; clear BK160; clear BK161; clear BK999; clear HB; have HO_37 := n0_; have BK159 := n1_; have BK160 := n2_; have BK161 := n3_; have BK999 := n4_; have HB := n5_; clear n0_ n1_ n2_ n3_ n4_ n5_; have p177 : 0 ≤ (x39_2 : Int) := oda; have q177 : x39_2 < (l1_1.length : Int) := oda; obtain ⟨ad177, e177, hx177_0⟩ := Kd.at_int HR1_1.out x39_2 p177 q177; have hw177_0 := hx177_0; cases e177
               (try replace hx177_0 := hbc HB hx177_0)
               replace p177 := eq_true p177; replace q177 := eq_true q177; have p178 : 0 ≤ (x39_2 : Int) := oda; have q178 : x39_2 < (l1_1.length : Int) := oda; obtain ⟨ad178, e178, hx178_0⟩ := Kd.at_int HR1_1.out x39_2 p178 q178; have hw178_0 := hx178_0
               obtain rfl : ad177 = ad178 := (by injection e178)
               (try replace hx178_0 := hbc HB hx178_0)
               replace p178 := eq_true p178; replace q178 := eq_true q178; have p179 : 0 ≤ (x39_2 : Int) := oda; have q179 : x39_2 < (l0_1.length : Int) := oda; obtain ⟨ad179, e179, hx179_0, hx179_1, hx179_2, hx179_3⟩ := at_T98 HR0_1.out x39_2 p179 q179; have hw179_3 := hx179_3; have hw179_2 := hx179_2; have hw179_1 := hx179_1; have hw179_0 := hx179_0; cases e179
               (try replace hx179_0 := hbc HB hx179_0)
               (try replace hx179_1 := hbc HB hx179_1)
               (try replace hx179_2 := hbc HB hx179_2)
               (try replace hx179_3 := hbc HB hx179_3)
               replace p179 := eq_true p179; replace q179 := eq_true q179
               refine start_ (n := 29) (S := fun w' => w'.cell? ⟨gb160, 0, none⟩ = some (.slice A1_0 l1_0.length c1_0) ∧ w'.cell? ⟨gb160, 1, none⟩ = some (.slice (some ad177) l1_1.length c1_1) ∧ w'.cell? ⟨gb160, 2, none⟩ = some (.slice A1_2 l1_2.length c1_2) ∧ w'.cell? ⟨gb159, 0, none⟩ = some (.int .i64 a0_0) ∧ w'.cell? ⟨gb159, 1, none⟩ = some (.slice (some ad179) l0_1.length c0_1) ∧ w'.cell? (ad177.add (x39_2).toNat) = some (.int .i64 (rd l1_1 x39_2)) ∧ w'.cell? (ad177.add (x39_2).toNat) = some (.int .i64 (rd l1_1 x39_2)) ∧ w'.cell? (ad179.add ((x39_2).toNat * 4)) = some (.int .i64 ((rd_T98 l0_1 x39_2).f0)) ∧ w'.cell? ⟨(ad179.add ((x39_2).toNat * 4)).block, (ad179.add ((x39_2).toNat * 4)).off + 1, none⟩ = some (.int .i64 ((rd_T98 l0_1 x39_2).f1)) ∧ w'.cell? ⟨(ad179.add ((x39_2).toNat * 4)).block, (ad179.add ((x39_2).toNat * 4)).off + 2, none⟩ = some (.int .i64 ((rd_T98 l0_1 x39_2).f2)) ∧ w'.cell? ⟨(ad179.add ((x39_2).toNat * 4)).block, (ad179.add ((x39_2).toNat * 4)).off + 3, none⟩ = some (.int .i64 ((rd_T98 l0_1 x39_2).f3))) (ds := []) #[F, F, F, F, F, F, F, F, F, F, F, F, F, F, F, F, F, F, F, F, F, F, F, F, F, F, F, F, F] (by kernel_rfl) rfl rfl ⟨(blk_cell BK160.out 0).trans rfl, (blk_cell BK160.out 1).trans rfl, (blk_cell BK160.out 2).trans rfl, (blk_cell BK159.out 0).trans rfl, (blk_cell BK159.out 1).trans rfl, ((HB.out.cell (World.block_lt_of_cell? w _ hw177_0)).trans hw177_0), ((HB.out.cell (World.block_lt_of_cell? w _ hw178_0)).trans hw178_0), ((HB.out.cell (World.block_lt_of_cell? w _ hw179_0)).trans hw179_0), ((HB.out.cell (World.block_lt_of_cell? w _ hw179_1)).trans hw179_1), ((HB.out.cell (World.block_lt_of_cell? w _ hw179_2)).trans hw179_2), ((HB.out.cell (World.block_lt_of_cell? w _ hw179_3)).trans hw179_3)⟩ (fun hHeld => ?_); refine with_tabW proof_Cheapest_1.tab10 proof_Cheapest_1.bits10 (fun HT_ HW_ => ?_)
               generalize wr.drew = w71 at HO_37 BK159 BK160 BK161 BK999 HB hx177_0 hx178_0 hx179_0 hx179_1 hx179_2 hx179_3 hHeld ⊢
               refine pure_ (i := 0) (N := some 44) (v := ?_) (a' := ?_) #[T, F, F, F, F, F, F, F, F, F, F, F, F, F, F, F, F, F, F, F, F, F, F, F, F, F, F, F, F] rfl rfl (any_of HT_.out (by kernel_rfl)) (fun _ _ _ h => h) (Or.inl ⟨by rfl, ?_⟩) ?_ ?_; rotate_left; intro w'; go_simp; with_reducible rfl; rotate_left; simp only [Act.put, sA, sZ, sS, i64_w, i32_w]; rfl
               refine pure_ (i := 1) (N := some 45) (v := ?_) (a' := ?_) #[T, T, F, F, F, F, F, F, F, F, F, F, F, F, F, F, F, F, F, F, F, F, F, F, F, F, F, F, F] rfl rfl (any_of HT_.out (by kernel_rfl)) (fun _ _ _ h => h) (Or.inl ⟨by rfl, ?_⟩) ?_ ?_; rotate_left; intro w'; go_simp; with_reducible rfl; rotate_left; simp only [Act.put, sA, sZ, sS, i64_w, i32_w]; rfl
               refine pure_ (i := 2) (N := some 46) (v := ?_) (a' := ?_) #[T, T, T, F, F, F, F, F, F, F, F, F, F, F, F, F, F, F, F, F, F, F, F, F, F, F, F, F, F] rfl rfl (any_of HT_.out (by kernel_rfl)) (fun _ _ _ h => h) (Or.inl ⟨by rfl, ?_⟩) ?_ ?_; rotate_left; intro w'; go_simp; with_reducible rfl; rotate_left; simp only [Act.put, sA, sZ, sS, i64_w, i32_w]; rfl
               refine pure_ (i := 3) (N := some 47) (v := ?_) (a' := ?_) #[T, T, T, T, F, F, F, F, F, F, F, F, F, F, F, F, F, F, F, F, F, F, F, F, F, F, F, F, F] rfl rfl (any_of HT_.out (by kernel_rfl)) (fun _ _ _ h => h) (Or.inl ⟨by rfl, ?_⟩) ?_ ?_; rotate_left; intro w'; go_simp; with_reducible rfl; rotate_left; simp only [Act.put, sA, sZ, sS, i64_w, i32_w]; rfl
               refine pure_ (i := 5) (N := some 49) (v := ?_) (a' := ?_) #[T, T, T, T, F, T, F, F, F, F, F, F, F, F, F, F, F, F, F, F, F, F, F, F, F, F, F, F, F] rfl rfl (any_of HT_.out (by kernel_rfl)) (fun _ _ _ h => h) (Or.inl ⟨by rfl, ?_⟩) ?_ ?_; rotate_left; intro w'; go_simp; with_reducible rfl; rotate_left; simp only [Act.put, sA, sZ, sS, i64_w, i32_w]; rfl
               refine take_ (i := 4) (N := some 48) (v := ?_) (a' := ?_) #[T, T, T, T, T, T, F, F, F, F, F, F, F, F, F, F, F, F, F, F, F, F, F, F, F, F, F, F, F] rfl rfl (take_ofW HT_.out HW_.out (by kernel_rfl)) (fun _ _ _ h => h) (Or.inl ⟨by rfl, ?_⟩) hHeld ?_ ?_; rotate_left; rintro w' ⟨s0, s1, s2, s3, s4, s5, s6, s7, s8, s9, s10⟩; go_simp; with_reducible rfl; rotate_left; simp only [Act.put, sA, sZ, sS, i64_w, i32_w]; rfl
               refine pure_ (i := 6) (N := some 50) (v := ?_) (a' := ?_) #[T, T, T, T, T, T, T, F, F, F, F, F, F, F, F, F, F, F, F, F, F, F, F, F, F, F, F, F, F] rfl rfl (any_of HT_.out (by kernel_rfl)) (fun _ _ _ h => h) (Or.inl ⟨by rfl, ?_⟩) ?_ ?_; rotate_left; intro w'; go_simp; with_reducible rfl; rotate_left; simp only [Act.put, sA, sZ, sS, i64_w, i32_w]; rfl
               refine take_ (i := 7) (N := some 51) (v := ?_) (a' := ?_) #[T, T, T, T, T, T, T, T, F, F, F, F, F, F, F, F, F, F, F, F, F, F, F, F, F, F, F, F, F] rfl rfl (take_ofW HT_.out HW_.out (by kernel_rfl)) (fun _ _ _ h => h) (Or.inl ⟨by rfl, ?_⟩) hHeld ?_ ?_; rotate_left; rintro w' ⟨s0, s1, s2, s3, s4, s5, s6, s7, s8, s9, s10⟩; go_simp; with_reducible rfl; rotate_left; simp only [Act.put, sA, sZ, sS, i64_w, i32_w]; rfl
               refine pure_ (i := 8) (N := some 52) (v := ?_) (a' := ?_) #[T, T, T, T, T, T, T, T, T, F, F, F, F, F, F, F, F, F, F, F, F, F, F, F, F, F, F, F, F] rfl rfl (any_of HT_.out (by kernel_rfl)) (fun _ _ _ h => h) (Or.inl ⟨by rfl, ?_⟩) ?_ ?_; rotate_left; intro w'; go_simp; with_reducible rfl; rotate_left; simp only [Act.put, sA, sZ, sS, i64_w, i32_w]; rfl
               refine pure_ (i := 9) (N := some 53) (v := ?_) (a' := ?_) #[T, T, T, T, T, T, T, T, T, T, F, F, F, F, F, F, F, F, F, F, F, F, F, F, F, F, F, F, F] rfl rfl (any_of HT_.out (by kernel_rfl)) (fun _ _ _ h => h) (Or.inl ⟨by rfl, ?_⟩) ?_ ?_; rotate_left; intro w'; go_simp; with_reducible rfl; rotate_left; simp only [Act.put, sA, sZ, sS, i64_w, i32_w]; rfl
               refine pure_ (i := 10) (N := some 54) (v := ?_) (a' := ?_) #[T, T, T, T, T, T, T, T, T, T, T, F, F, F, F, F, F, F, F, F, F, F, F, F, F, F, F, F, F] rfl rfl (any_of HT_.out (by kernel_rfl)) (fun _ _ _ h => h) (Or.inl ⟨by rfl, ?_⟩) ?_ ?_; rotate_left; intro w'; go_simp; with_reducible rfl; rotate_left; simp only [Act.put, sA, sZ, sS, i64_w, i32_w]; rfl
               refine pure_ (i := 11) (N := some 55) (v := ?_) (a' := ?_) #[T, T, T, T, T, T, T, T, T, T, T, T, F, F, F, F, F, F, F, F, F, F, F, F, F, F, F, F, F] rfl rfl (any_of HT_.out (by kernel_rfl)) (fun _ _ _ h => h) (Or.inl ⟨by rfl, ?_⟩) ?_ ?_; rotate_left; intro w'; go_simp; with_reducible rfl; rotate_left; simp only [Act.put, sA, sZ, sS, i64_w, i32_w]; rfl
               refine pure_ (i := 12) (N := some 56) (v := ?_) (a' := ?_) #[T, T, T, T, T, T, T, T, T, T, T, T, T, F, F, F, F, F, F, F, F, F, F, F, F, F, F, F, F] rfl rfl (any_of HT_.out (by kernel_rfl)) (fun _ _ _ h => h) (Or.inl ⟨by rfl, ?_⟩) ?_ ?_; rotate_left; intro w'; go_simp; with_reducible rfl; rotate_left; simp only [Act.put, sA, sZ, sS, i64_w, i32_w]; rfl
               refine pure_ (i := 13) (N := some 57) (v := ?_) (a' := ?_) #[T, T, T, T, T, T, T, T, T, T, T, T, T, T, F, F, F, F, F, F, F, F, F, F, F, F, F, F, F] rfl rfl (any_of HT_.out (by kernel_rfl)) (fun _ _ _ h => h) (Or.inl ⟨by rfl, ?_⟩) ?_ ?_; rotate_left; intro w'; go_simp; with_reducible rfl; rotate_left; simp only [Act.put, sA, sZ, sS, i64_w, i32_w]; rfl
               refine pure_ (i := 14) (N := some 58) (v := ?_) (a' := ?_) #[T, T, T, T, T, T, T, T, T, T, T, T, T, T, T, F, F, F, F, F, F, F, F, F, F, F, F, F, F] rfl rfl (any_of HT_.out (by kernel_rfl)) (fun _ _ _ h => h) (Or.inl ⟨by rfl, ?_⟩) ?_ ?_; rotate_left; intro w'; go_simp; with_reducible rfl; rotate_left; simp only [Act.put, sA, sZ, sS, i64_w, i32_w]; rfl
               refine pure_ (i := 16) (N := some 60) (v := ?_) (a' := ?_) #[T, T, T, T, T, T, T, T, T, T, T, T, T, T, T, F, T, F, F, F, F, F, F, F, F, F, F, F, F] rfl rfl (any_of HT_.out (by kernel_rfl)) (fun _ _ _ h => h) (Or.inl ⟨by rfl, ?_⟩) ?_ ?_; rotate_left; intro w'; go_simp; with_reducible rfl; rotate_left; simp only [Act.put, sA, sZ, sS, i64_w, i32_w]; rfl
               refine pure_ (i := 19) (N := some 63) (v := ?_) (a' := ?_) #[T, T, T, T, T, T, T, T, T, T, T, T, T, T, T, F, T, F, F, T, F, F, F, F, F, F, F, F, F] rfl rfl (any_of HT_.out (by kernel_rfl)) (fun _ _ _ h => h) (Or.inl ⟨by rfl, ?_⟩) ?_ ?_; rotate_left; intro w'; go_simp; with_reducible rfl; rotate_left; simp only [Act.put, sA, sZ, sS, i64_w, i32_w]; rfl
               refine pure_ (i := 21) (N := some 65) (v := ?_) (a' := ?_) #[T, T, T, T, T, T, T, T, T, T, T, T, T, T, T, F, T, F, F, T, F, T, F, F, F, F, F, F, F] rfl rfl (any_of HT_.out (by kernel_rfl)) (fun _ _ _ h => h) (Or.inl ⟨by rfl, ?_⟩) ?_ ?_; rotate_left; intro w'; go_simp; with_reducible rfl; rotate_left; simp only [Act.put, sA, sZ, sS, i64_w, i32_w]; rfl
               refine take_ (i := 15) (N := some 59) (v := ?_) (a' := ?_) #[T, T, T, T, T, T, T, T, T, T, T, T, T, T, T, T, T, F, F, T, F, T, F, F, F, F, F, F, F] rfl rfl (take_ofW HT_.out HW_.out (by kernel_rfl)) (fun _ _ _ h => h) (Or.inl ⟨by rfl, ?_⟩) hHeld ?_ ?_; rotate_left; rintro w' ⟨s0, s1, s2, s3, s4, s5, s6, s7, s8, s9, s10⟩; go_simp; with_reducible rfl; rotate_left; simp only [Act.put, sA, sZ, sS, i64_w, i32_w]; rfl
               refine pure_ (i := 17) (N := some 61) (v := ?_) (a' := ?_) #[T, T, T, T, T, T, T, T, T, T, T, T, T, T, T, T, T, T, F, T, F, T, F, F, F, F, F, F, F] rfl rfl (any_of HT_.out (by kernel_rfl)) (fun _ _ _ h => h) (Or.inl ⟨by rfl, ?_⟩) ?_ ?_; rotate_left; intro w'; go_simp; with_reducible rfl; rotate_left; simp only [Act.put, sA, sZ, sS, i64_w, i32_w]; rfl
               refine take_ (i := 18) (N := some 62) (v := ?_) (a' := ?_) #[T, T, T, T, T, T, T, T, T, T, T, T, T, T, T, T, T, T, T, T, F, T, F, F, F, F, F, F, F] rfl rfl (take_ofW HT_.out HW_.out (by kernel_rfl)) (fun _ _ _ h => h) (Or.inl ⟨by rfl, ?_⟩) hHeld ?_ ?_; rotate_left; rintro w' ⟨s0, s1, s2, s3, s4, s5, s6, s7, s8, s9, s10⟩; go_simp; with_reducible rfl; rotate_left; simp only [Act.put, sA, sZ, sS, i64_w, i32_w]; rfl
               refine take_ (i := 20) (N := some 64) (v := ?_) (a' := ?_) #[T, T, T, T, T, T, T, T, T, T, T, T, T, T, T, T, T, T, T, T, T, T, F, F, F, F, F, F, F] rfl rfl (take_ofW HT_.out HW_.out (by kernel_rfl)) (fun _ _ _ h => h) (Or.inl ⟨by rfl, ?_⟩) hHeld ?_ ?_; rotate_left; rintro w' ⟨s0, s1, s2, s3, s4, s5, s6, s7, s8, s9, s10⟩; go_simp; with_reducible rfl; rotate_left; simp only [Act.put, sA, sZ, sS, i64_w, i32_w]; rfl
               refine pure_ (i := 22) (N := some 66) (v := ?_) (a' := ?_) #[T, T, T, T, T, T, T, T, T, T, T, T, T, T, T, T, T, T, T, T, T, T, T, F, F, F, F, F, F] rfl rfl (any_of HT_.out (by kernel_rfl)) (fun _ _ _ h => h) (Or.inl ⟨by rfl, ?_⟩) ?_ ?_; rotate_left; intro w'; go_simp; with_reducible rfl; rotate_left; simp only [Act.put, sA, sZ, sS, i64_w, i32_w]; rfl
               refine pure_ (i := 23) (N := some 67) (v := ?_) (a' := ?_) #[T, T, T, T, T, T, T, T, T, T, T, T, T, T, T, T, T, T, T, T, T, T, T, T, F, F, F, F, F] rfl rfl (any_of HT_.out (by kernel_rfl)) (fun _ _ _ h => h) (Or.inl ⟨by rfl, ?_⟩) ?_ ?_; rotate_left; intro w'; go_simp; with_reducible rfl; rotate_left; simp only [Act.put, sA, sZ, sS, i64_w, i32_w]; rfl
               refine take_ (i := 24) (N := some 68) (v := ?_) (a' := ?_) #[T, T, T, T, T, T, T, T, T, T, T, T, T, T, T, T, T, T, T, T, T, T, T, T, T, F, F, F, F] rfl rfl (take_ofW HT_.out HW_.out (by kernel_rfl)) (fun _ _ _ h => h) (Or.inl ⟨by rfl, ?_⟩) hHeld ?_ ?_; rotate_left; rintro w' ⟨s0, s1, s2, s3, s4, s5, s6, s7, s8, s9, s10⟩; go_simp; with_reducible rfl; rotate_left; simp only [Act.put, sA, sZ, sS, i64_w, i32_w]; rfl
               refine pure_ (i := 25) (N := some 69) (v := ?_) (a' := ?_) #[T, T, T, T, T, T, T, T, T, T, T, T, T, T, T, T, T, T, T, T, T, T, T, T, T, T, F, F, F] rfl rfl (any_of HT_.out (by kernel_rfl)) (fun _ _ _ h => h) (Or.inl ⟨by rfl, ?_⟩) ?_ ?_; rotate_left; intro w'; go_simp; with_reducible rfl; rotate_left; simp only [Act.put, sA, sZ, sS, i64_w, i32_w]; rfl
               refine pure_ (i := 26) (N := some 70) (v := ?_) (a' := ?_) #[T, T, T, T, T, T, T, T, T, T, T, T, T, T, T, T, T, T, T, T, T, T, T, T, T, T, T, F, F] rfl rfl (any_of HT_.out (by kernel_rfl)) (fun _ _ _ h => h) (Or.inl ⟨by rfl, ?_⟩) ?_ ?_; rotate_left; intro w'; go_simp; with_reducible rfl; rotate_left; simp only [Act.put, sA, sZ, sS, i64_w, i32_w]; rfl
               refine pure_ (i := 27) (N := some 71) (v := ?_) (a' := ?_) #[T, T, T, T, T, T, T, T, T, T, T, T, T, T, T, T, T, T, T, T, T, T, T, T, T, T, T, T, F] rfl rfl (any_of HT_.out (by kernel_rfl)) (fun _ _ _ h => h) (Or.inl ⟨by rfl, ?_⟩) ?_ ?_; rotate_left; intro w'; go_simp; with_reducible rfl; rotate_left; simp only [Act.put, sA, sZ, sS, i64_w, i32_w]; rfl
               refine one_ (i := 28) (N := some 72) #[T, T, T, T, T, T, T, T, T, T, T, T, T, T, T, T, T, T, T, T, T, T, T, T, T, T, T, T, T] rfl rfl (one_of HT_.out (by kernel_rfl)) (by decide) (fun K hK => ?_)
               refine panics_ Try.func51 (by kernel_rfl) rfl #[.bool false, .int .i64 221] (by rfl) rfl rfl (by (try simp only [List.map_toArray, List.map_cons, List.map_nil]); first | done | rfl | (simp only [List.length_drop, List.length_take]; rfl)) ?_
               refine (proof_need.bad 221 _).mono ?_
               rintro e w' ⟨rfl, rfl⟩
               refine ⟨_, rfl, ?_⟩
               (repeat (first | refine panic_then ?_ | refine panic_block ?_))
               exact panic_body rfl (⟨Gave.no (by first | decide | assumption | (simp_all; done)) rfl, (bx BK161.out), (bx BK999.out), lb⟩)
               try go_wp2
            ·
             rw [if_neg c63] at H; have c63b0 : ((rd l1_1 x39_2) == 0) = false := beq_eq_false_iff_ne.mpr c63; have c63b1 : ((rd l1_1 x39_2) != 0) = true := bne_iff_ne.mpr c63
             simp only [Option.some.injEq, Prod.mk.injEq] at H
             obtain ⟨rfl, rfl⟩ := H; have p174 : 0 ≤ (x39_2 : Int) := oda; have q174 : x39_2 < (t171.length : Int) := oda; obtain ⟨ad174, e174, hx174_0⟩ := Kd.at_int (Kd.R_reads' HO_37.out).2.2 x39_2 p174 q174; cases e174; replace p174 := eq_true p174; replace q174 := eq_true q174
             try go_wp2
             have n0_ := ak (Kd.R_drew HO_37.out); have n1_ := ak (blk_drew BK159.out); have n2_ := ak (blk_drew BK160.out); have n3_ := ak (blk_drew BK161.out); have n4_ := ak (blk_drew BK999.out); have n5_ := ak (below_drew1 HB.out); clear HO_37; clear BK159; clear BK160; clear BK161; clear BK999; clear HB; have HO_37 := n0_; have BK159 := n1_; have BK160 := n2_; have BK161 := n3_; have BK999 := n4_; have HB := n5_; clear n0_ n1_ n2_ n3_ n4_ n5_; have p177 : 0 ≤ (x39_2 : Int) := oda; have q177 : x39_2 < (l1_1.length : Int) := oda; obtain ⟨ad177, e177, hx177_0⟩ := Kd.at_int HR1_1.out x39_2 p177 q177; have hw177_0 := hx177_0; cases e177
             (try replace hx177_0 := hbc HB hx177_0)
             replace p177 := eq_true p177; replace q177 := eq_true q177
             refine start_ (n := 29) (S := fun w' => w'.cell? ⟨gb160, 0, none⟩ = some (.slice A1_0 l1_0.length c1_0) ∧ w'.cell? ⟨gb160, 1, none⟩ = some (.slice (some ad177) l1_1.length c1_1) ∧ w'.cell? ⟨gb160, 2, none⟩ = some (.slice A1_2 l1_2.length c1_2) ∧ w'.cell? (ad177.add (x39_2).toNat) = some (.int .i64 (rd l1_1 x39_2))) (ds := []) #[F, F, F, F, F, F, F, F, F, F, F, F, F, F, F, F, F, F, F, F, F, F, F, F, F, F, F, F, F] (by kernel_rfl) rfl rfl ⟨(blk_cell BK160.out 0).trans rfl, (blk_cell BK160.out 1).trans rfl, (blk_cell BK160.out 2).trans rfl, ((HB.out.cell (World.block_lt_of_cell? w _ hw177_0)).trans hw177_0)⟩ (fun hHeld => ?_); refine with_tabW proof_Cheapest_1.tab10 proof_Cheapest_1.bits10 (fun HT_ HW_ => ?_)
             generalize wr.drew = w72 at HO_37 BK159 BK160 BK161 BK999 HB hx177_0 hHeld ⊢
             refine pure_ (i := 0) (N := some 44) (v := ?_) (a' := ?_) #[T, F, F, F, F, F, F, F, F, F, F, F, F, F, F, F, F, F, F, F, F, F, F, F, F, F, F, F, F] rfl rfl (any_of HT_.out (by kernel_rfl)) (fun _ _ _ h => h) (Or.inl ⟨by rfl, ?_⟩) ?_ ?_; rotate_left; intro w'; go_simp; with_reducible rfl; rotate_left; simp only [Act.put, sA, sZ, sS, i64_w, i32_w]; rfl
             refine pure_ (i := 1) (N := some 45) (v := ?_) (a' := ?_) #[T, T, F, F, F, F, F, F, F, F, F, F, F, F, F, F, F, F, F, F, F, F, F, F, F, F, F, F, F] rfl rfl (any_of HT_.out (by kernel_rfl)) (fun _ _ _ h => h) (Or.inl ⟨by rfl, ?_⟩) ?_ ?_; rotate_left; intro w'; go_simp; with_reducible rfl; rotate_left; simp only [Act.put, sA, sZ, sS, i64_w, i32_w]; rfl
             refine pure_ (i := 2) (N := some 46) (v := ?_) (a' := ?_) #[T, T, T, F, F, F, F, F, F, F, F, F, F, F, F, F, F, F, F, F, F, F, F, F, F, F, F, F, F] rfl rfl (any_of HT_.out (by kernel_rfl)) (fun _ _ _ h => h) (Or.inl ⟨by rfl, ?_⟩) ?_ ?_; rotate_left; intro w'; go_simp; with_reducible rfl; rotate_left; simp only [Act.put, sA, sZ, sS, i64_w, i32_w]; rfl
             refine pure_ (i := 3) (N := some 47) (v := ?_) (a' := ?_) #[T, T, T, T, F, F, F, F, F, F, F, F, F, F, F, F, F, F, F, F, F, F, F, F, F, F, F, F, F] rfl rfl (any_of HT_.out (by kernel_rfl)) (fun _ _ _ h => h) (Or.inl ⟨by rfl, ?_⟩) ?_ ?_; rotate_left; intro w'; go_simp; with_reducible rfl; rotate_left; simp only [Act.put, sA, sZ, sS, i64_w, i32_w]; rfl
             refine pure_ (i := 5) (N := some 49) (v := ?_) (a' := ?_) #[T, T, T, T, F, T, F, F, F, F, F, F, F, F, F, F, F, F, F, F, F, F, F, F, F, F, F, F, F] rfl rfl (any_of HT_.out (by kernel_rfl)) (fun _ _ _ h => h) (Or.inl ⟨by rfl, ?_⟩) ?_ ?_; rotate_left; intro w'; go_simp; with_reducible rfl; rotate_left; simp only [Act.put, sA, sZ, sS, i64_w, i32_w]; rfl
             refine take_ (i := 4) (N := some 48) (v := ?_) (a' := ?_) #[T, T, T, T, T, T, F, F, F, F, F, F, F, F, F, F, F, F, F, F, F, F, F, F, F, F, F, F, F] rfl rfl (take_ofW HT_.out HW_.out (by kernel_rfl)) (fun _ _ _ h => h) (Or.inl ⟨by rfl, ?_⟩) hHeld ?_ ?_; rotate_left; rintro w' ⟨s0, s1, s2, s3⟩; go_simp; with_reducible rfl; rotate_left; simp only [Act.put, sA, sZ, sS, i64_w, i32_w]; rfl
             refine pure_ (i := 6) (N := some 50) (v := ?_) (a' := ?_) #[T, T, T, T, T, T, T, F, F, F, F, F, F, F, F, F, F, F, F, F, F, F, F, F, F, F, F, F, F] rfl rfl (any_of HT_.out (by kernel_rfl)) (fun _ _ _ h => h) (Or.inl ⟨by rfl, ?_⟩) ?_ ?_; rotate_left; intro w'; go_simp; with_reducible rfl; rotate_left; simp only [Act.put, sA, sZ, sS, i64_w, i32_w]; rfl
             refine take_ (i := 7) (N := some 51) (v := ?_) (a' := ?_) #[T, T, T, T, T, T, T, T, F, F, F, F, F, F, F, F, F, F, F, F, F, F, F, F, F, F, F, F, F] rfl rfl (take_ofW HT_.out HW_.out (by kernel_rfl)) (fun _ _ _ h => h) (Or.inl ⟨by rfl, ?_⟩) hHeld ?_ ?_; rotate_left; rintro w' ⟨s0, s1, s2, s3⟩; go_simp; with_reducible rfl; rotate_left; simp only [Act.put, sA, sZ, sS, i64_w, i32_w]; rfl
             refine pure_ (i := 8) (N := some 52) (v := ?_) (a' := ?_) #[T, T, T, T, T, T, T, T, T, F, F, F, F, F, F, F, F, F, F, F, F, F, F, F, F, F, F, F, F] rfl rfl (any_of HT_.out (by kernel_rfl)) (fun _ _ _ h => h) (Or.inl ⟨by rfl, ?_⟩) ?_ ?_; rotate_left; intro w'; go_simp; with_reducible rfl; rotate_left; simp only [Act.put, sA, sZ, sS, i64_w, i32_w]; rfl
             refine pure_ (i := 9) (N := some 53) (v := ?_) (a' := ?_) #[T, T, T, T, T, T, T, T, T, T, F, F, F, F, F, F, F, F, F, F, F, F, F, F, F, F, F, F, F] rfl rfl (any_of HT_.out (by kernel_rfl)) (fun _ _ _ h => h) (Or.inl ⟨by rfl, ?_⟩) ?_ ?_; rotate_left; intro w'; go_simp; with_reducible rfl; rotate_left; simp only [Act.put, sA, sZ, sS, i64_w, i32_w]; rfl
             refine pure_ (i := 10) (N := some 54) (v := ?_) (a' := ?_) #[T, T, T, T, T, T, T, T, T, T, T, F, F, F, F, F, F, F, F, F, F, F, F, F, F, F, F, F, F] rfl rfl (any_of HT_.out (by kernel_rfl)) (fun _ _ _ h => h) (Or.inl ⟨by rfl, ?_⟩) ?_ ?_; rotate_left; intro w'; go_simp; with_reducible rfl; rotate_left; simp only [Act.put, sA, sZ, sS, i64_w, i32_w]; rfl
             refine pure_ (i := 11) (N := some 55) (v := undef) (a' := ?_) #[T, T, T, T, T, T, T, T, T, T, T, T, F, F, F, F, F, F, F, F, F, F, F, F, F, F, F, F, F] rfl rfl (any_of HT_.out (by kernel_rfl)) (fun _ _ _ h => h) (Or.inr ⟨by rfl, rfl⟩) ?_ ?_
             rotate_left
             ·
              simp only [Act.put, sA, sZ, sS, i64_w, i32_w]
              rfl
             refine pure_ (i := 12) (N := some 56) (v := undef) (a' := ?_) #[T, T, T, T, T, T, T, T, T, T, T, T, T, F, F, F, F, F, F, F, F, F, F, F, F, F, F, F, F] rfl rfl (any_of HT_.out (by kernel_rfl)) (fun _ _ _ h => h) (Or.inr ⟨by rfl, rfl⟩) ?_ ?_
             rotate_left
             ·
              simp only [Act.put, sA, sZ, sS, i64_w, i32_w]
              rfl
             refine pure_ (i := 13) (N := some 57) (v := undef) (a' := ?_) #[T, T, T, T, T, T, T, T, T, T, T, T, T, T, F, F, F, F, F, F, F, F, F, F, F, F, F, F, F] rfl rfl (any_of HT_.out (by kernel_rfl)) (fun _ _ _ h => h) (Or.inr ⟨by rfl, rfl⟩) ?_ ?_
             rotate_left
             ·
              simp only [Act.put, sA, sZ, sS, i64_w, i32_w]
              rfl
             refine pure_ (i := 14) (N := some 58) (v := undef) (a' := ?_) #[T, T, T, T, T, T, T, T, T, T, T, T, T, T, T, F, F, F, F, F, F, F, F, F, F, F, F, F, F] rfl rfl (any_of HT_.out (by kernel_rfl)) (fun _ _ _ h => h) (Or.inr ⟨by rfl, rfl⟩) ?_ ?_
             rotate_left
             ·
              simp only [Act.put, sA, sZ, sS, i64_w, i32_w]
              rfl
             refine pure_ (i := 15) (N := some 59) (v := undef) (a' := ?_) #[T, T, T, T, T, T, T, T, T, T, T, T, T, T, T, T, F, F, F, F, F, F, F, F, F, F, F, F, F] rfl rfl (any_of HT_.out (by kernel_rfl)) (fun _ _ _ h => h) (Or.inr ⟨by rfl, rfl⟩) ?_ ?_
             rotate_left
             ·
              simp only [Act.put, sA, sZ, sS, i64_w, i32_w]
              rfl
             refine pure_ (i := 16) (N := some 60) (v := undef) (a' := ?_) #[T, T, T, T, T, T, T, T, T, T, T, T, T, T, T, T, T, F, F, F, F, F, F, F, F, F, F, F, F] rfl rfl (any_of HT_.out (by kernel_rfl)) (fun _ _ _ h => h) (Or.inr ⟨by rfl, rfl⟩) ?_ ?_
             rotate_left
             ·
              simp only [Act.put, sA, sZ, sS, i64_w, i32_w]
              rfl
             refine pure_ (i := 17) (N := some 61) (v := undef) (a' := ?_) #[T, T, T, T, T, T, T, T, T, T, T, T, T, T, T, T, T, T, F, F, F, F, F, F, F, F, F, F, F] rfl rfl (any_of HT_.out (by kernel_rfl)) (fun _ _ _ h => h) (Or.inr ⟨by rfl, rfl⟩) ?_ ?_
             rotate_left
             ·
              simp only [Act.put, sA, sZ, sS, i64_w, i32_w]
              rfl
             refine pure_ (i := 18) (N := some 62) (v := undef) (a' := ?_) #[T, T, T, T, T, T, T, T, T, T, T, T, T, T, T, T, T, T, T, F, F, F, F, F, F, F, F, F, F] rfl rfl (any_of HT_.out (by kernel_rfl)) (fun _ _ _ h => h) (Or.inr ⟨by rfl, rfl⟩) ?_ ?_
             rotate_left
             ·
              simp only [Act.put, sA, sZ, sS, i64_w, i32_w]
              rfl
             refine pure_ (i := 19) (N := some 63) (v := undef) (a' := ?_) #[T, T, T, T, T, T, T, T, T, T, T, T, T, T, T, T, T, T, T, T, F, F, F, F, F, F, F, F, F] rfl rfl (any_of HT_.out (by kernel_rfl)) (fun _ _ _ h => h) (Or.inr ⟨by rfl, rfl⟩) ?_ ?_
             rotate_left
             ·
              simp only [Act.put, sA, sZ, sS, i64_w, i32_w]
              rfl
             refine pure_ (i := 20) (N := some 64) (v := undef) (a' := ?_) #[T, T, T, T, T, T, T, T, T, T, T, T, T, T, T, T, T, T, T, T, T, F, F, F, F, F, F, F, F] rfl rfl (any_of HT_.out (by kernel_rfl)) (fun _ _ _ h => h) (Or.inr ⟨by rfl, rfl⟩) ?_ ?_
             rotate_left
             ·
              simp only [Act.put, sA, sZ, sS, i64_w, i32_w]
              rfl
             refine pure_ (i := 21) (N := some 65) (v := undef) (a' := ?_) #[T, T, T, T, T, T, T, T, T, T, T, T, T, T, T, T, T, T, T, T, T, T, F, F, F, F, F, F, F] rfl rfl (any_of HT_.out (by kernel_rfl)) (fun _ _ _ h => h) (Or.inr ⟨by rfl, rfl⟩) ?_ ?_
             rotate_left
             ·
              simp only [Act.put, sA, sZ, sS, i64_w, i32_w]
              rfl
             refine pure_ (i := 22) (N := some 66) (v := undef) (a' := ?_) #[T, T, T, T, T, T, T, T, T, T, T, T, T, T, T, T, T, T, T, T, T, T, T, F, F, F, F, F, F] rfl rfl (any_of HT_.out (by kernel_rfl)) (fun _ _ _ h => h) (Or.inr ⟨by rfl, rfl⟩) ?_ ?_
             rotate_left
             ·
              simp only [Act.put, sA, sZ, sS, i64_w, i32_w]
              rfl
             refine pure_ (i := 23) (N := some 67) (v := undef) (a' := ?_) #[T, T, T, T, T, T, T, T, T, T, T, T, T, T, T, T, T, T, T, T, T, T, T, T, F, F, F, F, F] rfl rfl (any_of HT_.out (by kernel_rfl)) (fun _ _ _ h => h) (Or.inr ⟨by rfl, rfl⟩) ?_ ?_
             rotate_left
             ·
              simp only [Act.put, sA, sZ, sS, i64_w, i32_w]
              rfl
             refine pure_ (i := 24) (N := some 68) (v := undef) (a' := ?_) #[T, T, T, T, T, T, T, T, T, T, T, T, T, T, T, T, T, T, T, T, T, T, T, T, T, F, F, F, F] rfl rfl (any_of HT_.out (by kernel_rfl)) (fun _ _ _ h => h) (Or.inr ⟨by rfl, rfl⟩) ?_ ?_
             rotate_left
             ·
              simp only [Act.put, sA, sZ, sS, i64_w, i32_w]
              rfl
             refine pure_ (i := 25) (N := some 69) (v := undef) (a' := ?_) #[T, T, T, T, T, T, T, T, T, T, T, T, T, T, T, T, T, T, T, T, T, T, T, T, T, T, F, F, F] rfl rfl (any_of HT_.out (by kernel_rfl)) (fun _ _ _ h => h) (Or.inr ⟨by rfl, rfl⟩) ?_ ?_
             rotate_left
             ·
              simp only [Act.put, sA, sZ, sS, i64_w, i32_w]
              rfl
             refine pure_ (i := 26) (N := some 70) (v := undef) (a' := ?_) #[T, T, T, T, T, T, T, T, T, T, T, T, T, T, T, T, T, T, T, T, T, T, T, T, T, T, T, F, F] rfl rfl (any_of HT_.out (by kernel_rfl)) (fun _ _ _ h => h) (Or.inr ⟨by rfl, rfl⟩) ?_ ?_
             rotate_left
             ·
              simp only [Act.put, sA, sZ, sS, i64_w, i32_w]
              rfl
             refine pure_ (i := 27) (N := some 71) (v := ?_) (a' := ?_) #[T, T, T, T, T, T, T, T, T, T, T, T, T, T, T, T, T, T, T, T, T, T, T, T, T, T, T, T, F] rfl rfl (any_of HT_.out (by kernel_rfl)) (fun _ _ _ h => h) (Or.inl ⟨by rfl, ?_⟩) ?_ ?_; rotate_left; intro w'; go_simp; with_reducible rfl; rotate_left; simp only [Act.put, sA, sZ, sS, i64_w, i32_w]; rfl
             refine one_ (i := 28) (N := some 72) #[T, T, T, T, T, T, T, T, T, T, T, T, T, T, T, T, T, T, T, T, T, T, T, T, T, T, T, T, T] rfl rfl (one_of HT_.out (by kernel_rfl)) (by decide) (fun K hK => ?_)
             refine panics_ Try.func51 (by kernel_rfl) rfl #[.bool false, .int .i64 221] (by rfl) rfl rfl (by (try simp only [List.map_toArray, List.map_cons, List.map_nil]); first | done | rfl | (simp only [List.length_drop, List.length_take]; rfl)) ?_
             refine (proof_need.bad 221 _).mono ?_
             rintro e w' ⟨rfl, rfl⟩
             refine ⟨_, rfl, ?_⟩
             (repeat (first | refine panic_then ?_ | refine panic_block ?_))
             exact panic_body rfl (⟨Gave.no (by first | decide | assumption | (simp_all; done)) rfl, (bx BK161.out), (bx BK999.out), lb⟩)
             try go_wp2
          ·
           rw [if_neg c49] at H; have c49b0 : decide (x39_2 < (t171.length : Int)) = false := decide_eq_false c49; clear c49; have H' := ak H; clear H; have hnb73 := NB159_160.out; have hnc73 := NB160_159.out; have hnb74 := NB159_161.out; have hnc74 := NB161_159.out; have hnb75 := NB159_999.out; have hnc75 := NB999_159.out; have hcz76_0 := bc0 BK159; have hcz76_1 := bc1 BK159; have hfz76_0 := bf BK159 0; have hfz76_1 := bf BK159 1
           go_wp2
           go_loopg [77] k2 (fun kq v77 w' => ∃ (x77_3 : Int) (x162000_3 : Int), v77 = .int .i64 x77_3 ∧ Aside0 (proof_Cheapest_1.l2 kq l0_1 (l0_1.length : Int) x77_3 l1_0 l1_1 l1_2 x162000_3 = some (r1, r2)) ∧ Aside0 (kq ≤ k2) ∧ Aside0 (w'.heap[gb159]? = some (.cells #[.int .i64 a0_0, (.slice A0_1 l0_1.length c0_1)] 24 (0, 0))) ∧ Aside0 (w'.heap[gb160]? = some (.cells #[(.slice A1_0 l1_0.length c1_0), (.slice A1_1 l1_1.length c1_1), (.slice A1_2 l1_2.length c1_2)] 44 (0, 0))) ∧ Aside0 (w'.heap[gb161]? = some (.cells #[.int .i64 x162000_3] 2 (0, 0))) ∧ Aside0 (w'.heap[gbx]? = some (.cells #[.int .i64 0] 30 (0, 0))) ∧ Aside0 (Below w.heap.size w w'))
           case atStart => exact ⟨(0), (a2), (by first | rfl | (simp [*]; done)), H', ⟨Nat.le_refl _⟩, ⟨bx BK159.out⟩, ⟨bx BK160.out⟩, ⟨bx BK161.out⟩, ⟨bx BK999.out⟩, ⟨lb⟩⟩
           case round =>
            clear H'; obtain ⟨x77_3, x162000_3, rfl, HA, HK3, BK159, BK160, BK161, BK999, HB⟩ := hrel
            cases gk with
            | zero => exact absurd HA.out (by simp [proof_Cheapest_1.l2])
            | succ k3 =>
             have H := HA.out; clear HA
             simp only [proof_Cheapest_1.l2] at H
             by_cases c77 : x77_3 < (l0_1.length : Int)
             ·
              rw [if_pos c77] at H; have c77b0 := decide_eq_true c77; clear c77; replace H := ifd H; obtain ⟨c78b0, H⟩ := H; replace H := ifd H; obtain ⟨c79b0, H⟩ := H; replace H := ifd H; obtain ⟨c80b0, H⟩ := H; have H' := ak H; clear H; have p180 : 0 ≤ (x77_3 : Int) := oda; have q180 : x77_3 < (l0_1.length : Int) := oda; obtain ⟨ad180, e180, hx180_0, hx180_1, hx180_2, hx180_3⟩ := at_T98 HR0_1.out x77_3 p180 q180; cases e180
              (try replace hx180_0 := hbc HB hx180_0)
              (try replace hx180_1 := hbc HB hx180_1)
              (try replace hx180_2 := hbc HB hx180_2)
              (try replace hx180_3 := hbc HB hx180_3)
              replace p180 := eq_true p180; replace q180 := eq_true q180
              try go_wp2_with (first | ((with_reducible refine gate_dst (N := 8) rfl ?_); refine box_event ?hg (N := 8) ?hd (cs := #[.int .i64 0, .int .i64 0, .int .i64 0, .int .i64 0]) (t := 98) ?hr ?_; (case hd => rfl); (case hg => rfl); (case hr => first | (go_simp; done) | (go_simp; rfl)); intro gb181 hg w81 hbox hb; have n0_ := ak (blk_below (bx BK159.out) hb); have n1_ := ak (blk_below (bx BK160.out) hb); have n2_ := ak (blk_below (bx BK161.out) hb); have n3_ := ak (blk_below (g := gbx) (o := .cells #[.int .i64 0] 30 (0, 0)) (bx BK999.out) hb); have n4_ := ak (below_step lb hb); have n5_ := ak (hbox); have n6_ := ak (gw w hg); have n7_ := ak (gw w hg); have n8_ := ak (nl hg BK159); have n9_ := ak (nr hg BK159); have n10_ := ak (nl hg BK160); have n11_ := ak (nr hg BK160); have n12_ := ak (nl hg BK161); have n13_ := ak (nr hg BK161); have n14_ := ak ((by rw [hg]; exact Nat.ne_of_lt (blk_lt (g := gbx) (o := .cells #[.int .i64 0] 30 (0, 0)) (bx BK999.out)) : gbx ≠ gb181)); have n15_ := ak ((by rw [hg]; exact Nat.ne_of_gt (blk_lt (g := gbx) (o := .cells #[.int .i64 0] 30 (0, 0)) (bx BK999.out)) : gb181 ≠ gbx)); clear BK159; clear BK160; clear BK161; clear BK999; clear HB; have BK159 := n0_; have BK160 := n1_; have BK161 := n2_; have BK999 := n3_; have HB := n4_; have BK181 := n5_; have GW181 := n6_; have GE181 := n7_; have NB159_181 := n8_; have NB181_159 := n9_; have NB160_181 := n10_; have NB181_160 := n11_; have NB161_181 := n12_; have NB181_161 := n13_; have NB999_181 := n14_; have NB181_999 := n15_; clear n0_ n1_ n2_ n3_ n4_ n5_ n6_ n7_ n8_ n9_ n10_ n11_ n12_ n13_ n14_ n15_; clear hb hbox hg; have hnb82 := NB181_159.out; have hnc82 := NB159_181.out; have hnb83 := NB181_160.out; have hnc83 := NB160_181.out; have hnb84 := NB181_161.out; have hnc84 := NB161_181.out; have hnb85 := NB181_999.out; have hnc85 := NB999_181.out; have hcz86_0 := bc0 BK181; have hcz86_1 := bc1 BK181; have hcz86_2 := bc2 BK181; have hcz86_3 := bc3 BK181; have hfz86_0 := bf BK181 0; have hfz86_1 := bf BK181 1; have hfz86_2 := bf BK181 2; have hfz86_3 := bf BK181 3))
              have n0_ : Aside0 (((((w81.setCell ⟨gb181, 0, none⟩ (.int .i64 ((rd_T98 l0_1 x77_3).f0))).setCell ⟨gb181, 1, none⟩ (.int .i64 ((rd_T98 l0_1 x77_3).f1))).setCell ⟨gb181, 2, none⟩ (.int .i64 ((rd_T98 l0_1 x77_3).f2))).setCell ⟨gb181, 3, none⟩ (.int .i64 ((rd_T98 l0_1 x77_3).f3))).heap[gb159]? = some (.cells #[.int .i64 a0_0, .slice (some ad180) l0_1.length c0_1] 24 (0, 0))) := ⟨by (with_reducible repeat (first | refine blk_drewN ?_ _ | refine blk_drew ?_ | refine blk_alloc ?_ _)); refine blk_far ?_ NB159_181.out _; (with_reducible repeat (first | refine blk_drewN ?_ _ | refine blk_drew ?_ | refine blk_alloc ?_ _)); refine blk_far ?_ NB159_181.out _; (with_reducible repeat (first | refine blk_drewN ?_ _ | refine blk_drew ?_ | refine blk_alloc ?_ _)); refine blk_far ?_ NB159_181.out _; (with_reducible repeat (first | refine blk_drewN ?_ _ | refine blk_drew ?_ | refine blk_alloc ?_ _)); refine blk_far ?_ NB159_181.out _; exact bx BK159.out⟩
              have n1_ : Aside0 (((((w81.setCell ⟨gb181, 0, none⟩ (.int .i64 ((rd_T98 l0_1 x77_3).f0))).setCell ⟨gb181, 1, none⟩ (.int .i64 ((rd_T98 l0_1 x77_3).f1))).setCell ⟨gb181, 2, none⟩ (.int .i64 ((rd_T98 l0_1 x77_3).f2))).setCell ⟨gb181, 3, none⟩ (.int .i64 ((rd_T98 l0_1 x77_3).f3))).heap[gb160]? = some (.cells #[.slice A1_0 l1_0.length c1_0, .slice A1_1 l1_1.length c1_1, .slice A1_2 l1_2.length c1_2] 44 (0, 0))) := ⟨by (with_reducible repeat (first | refine blk_drewN ?_ _ | refine blk_drew ?_ | refine blk_alloc ?_ _)); refine blk_far ?_ NB160_181.out _; (with_reducible repeat (first | refine blk_drewN ?_ _ | refine blk_drew ?_ | refine blk_alloc ?_ _)); refine blk_far ?_ NB160_181.out _; (with_reducible repeat (first | refine blk_drewN ?_ _ | refine blk_drew ?_ | refine blk_alloc ?_ _)); refine blk_far ?_ NB160_181.out _; (with_reducible repeat (first | refine blk_drewN ?_ _ | refine blk_drew ?_ | refine blk_alloc ?_ _)); refine blk_far ?_ NB160_181.out _; exact bx BK160.out⟩
              have n2_ : Aside0 (((((w81.setCell ⟨gb181, 0, none⟩ (.int .i64 ((rd_T98 l0_1 x77_3).f0))).setCell ⟨gb181, 1, none⟩ (.int .i64 ((rd_T98 l0_1 x77_3).f1))).setCell ⟨gb181, 2, none⟩ (.int .i64 ((rd_T98 l0_1 x77_3).f2))).setCell ⟨gb181, 3, none⟩ (.int .i64 ((rd_T98 l0_1 x77_3).f3))).heap[gb161]? = some (.cells #[.int .i64 x162000_3] 2 (0, 0))) := ⟨by (with_reducible repeat (first | refine blk_drewN ?_ _ | refine blk_drew ?_ | refine blk_alloc ?_ _)); refine blk_far ?_ NB161_181.out _; (with_reducible repeat (first | refine blk_drewN ?_ _ | refine blk_drew ?_ | refine blk_alloc ?_ _)); refine blk_far ?_ NB161_181.out _; (with_reducible repeat (first | refine blk_drewN ?_ _ | refine blk_drew ?_ | refine blk_alloc ?_ _)); refine blk_far ?_ NB161_181.out _; (with_reducible repeat (first | refine blk_drewN ?_ _ | refine blk_drew ?_ | refine blk_alloc ?_ _)); refine blk_far ?_ NB161_181.out _; exact bx BK161.out⟩
              have n3_ : Aside0 (((((w81.setCell ⟨gb181, 0, none⟩ (.int .i64 ((rd_T98 l0_1 x77_3).f0))).setCell ⟨gb181, 1, none⟩ (.int .i64 ((rd_T98 l0_1 x77_3).f1))).setCell ⟨gb181, 2, none⟩ (.int .i64 ((rd_T98 l0_1 x77_3).f2))).setCell ⟨gb181, 3, none⟩ (.int .i64 ((rd_T98 l0_1 x77_3).f3))).heap[gbx]? = some (.cells #[.int .i64 0] 30 (0, 0))) := ⟨by (with_reducible repeat (first | refine blk_drewN ?_ _ | refine blk_drew ?_ | refine blk_alloc ?_ _)); refine blk_far ?_ NB999_181.out _; (with_reducible repeat (first | refine blk_drewN ?_ _ | refine blk_drew ?_ | refine blk_alloc ?_ _)); refine blk_far ?_ NB999_181.out _; (with_reducible repeat (first | refine blk_drewN ?_ _ | refine blk_drew ?_ | refine blk_alloc ?_ _)); refine blk_far ?_ NB999_181.out _; (with_reducible repeat (first | refine blk_drewN ?_ _ | refine blk_drew ?_ | refine blk_alloc ?_ _)); refine blk_far ?_ NB999_181.out _; exact bx BK999.out⟩
              have n4_ : Aside0 (((((w81.setCell ⟨gb181, 0, none⟩ (.int .i64 ((rd_T98 l0_1 x77_3).f0))).setCell ⟨gb181, 1, none⟩ (.int .i64 ((rd_T98 l0_1 x77_3).f1))).setCell ⟨gb181, 2, none⟩ (.int .i64 ((rd_T98 l0_1 x77_3).f2))).setCell ⟨gb181, 3, none⟩ (.int .i64 ((rd_T98 l0_1 x77_3).f3))).heap[gb181]? = some (.cells #[.int .i64 ((rd_T98 l0_1 x77_3).f0), .int .i64 ((rd_T98 l0_1 x77_3).f1), .int .i64 ((rd_T98 l0_1 x77_3).f2), .int .i64 ((rd_T98 l0_1 x77_3).f3)] 98 (0, 0))) := ⟨by (with_reducible repeat (first | refine blk_drewN ?_ _ | refine blk_drew ?_ | refine blk_alloc ?_ _)); refine blk_put (cs := #[.int .i64 ((rd_T98 l0_1 x77_3).f0), .int .i64 ((rd_T98 l0_1 x77_3).f1), .int .i64 ((rd_T98 l0_1 x77_3).f2), .int .i64 0]) ?_ 3 _ rfl; (with_reducible repeat (first | refine blk_drewN ?_ _ | refine blk_drew ?_ | refine blk_alloc ?_ _)); refine blk_put (cs := #[.int .i64 ((rd_T98 l0_1 x77_3).f0), .int .i64 ((rd_T98 l0_1 x77_3).f1), .int .i64 0, .int .i64 0]) ?_ 2 _ rfl; (with_reducible repeat (first | refine blk_drewN ?_ _ | refine blk_drew ?_ | refine blk_alloc ?_ _)); refine blk_put (cs := #[.int .i64 ((rd_T98 l0_1 x77_3).f0), .int .i64 0, .int .i64 0, .int .i64 0]) ?_ 1 _ rfl; (with_reducible repeat (first | refine blk_drewN ?_ _ | refine blk_drew ?_ | refine blk_alloc ?_ _)); refine blk_put (cs := #[.int .i64 0, .int .i64 0, .int .i64 0, .int .i64 0]) ?_ 0 _ rfl; exact bx BK181.out⟩
              have n5_ : Aside0 (Below w.heap.size w ((((w81.setCell ⟨gb181, 0, none⟩ (.int .i64 ((rd_T98 l0_1 x77_3).f0))).setCell ⟨gb181, 1, none⟩ (.int .i64 ((rd_T98 l0_1 x77_3).f1))).setCell ⟨gb181, 2, none⟩ (.int .i64 ((rd_T98 l0_1 x77_3).f2))).setCell ⟨gb181, 3, none⟩ (.int .i64 ((rd_T98 l0_1 x77_3).f3)))) := ⟨lb⟩
              (try clear BK159)
              (try clear BK160)
              (try clear BK161)
              (try clear BK999)
              (try clear BK181)
              (try clear HB)
              generalize ((((w81.setCell ⟨gb181, 0, none⟩ (.int .i64 ((rd_T98 l0_1 x77_3).f0))).setCell ⟨gb181, 1, none⟩ (.int .i64 ((rd_T98 l0_1 x77_3).f1))).setCell ⟨gb181, 2, none⟩ (.int .i64 ((rd_T98 l0_1 x77_3).f2))).setCell ⟨gb181, 3, none⟩ (.int .i64 ((rd_T98 l0_1 x77_3).f3))) = w87 at n0_ n1_ n2_ n3_ n4_ n5_ ⊢
              have BK159 := n0_; have BK160 := n1_; have BK161 := n2_; have BK999 := n3_; have BK181 := n4_; have HB := n5_; clear n0_ n1_ n2_ n3_ n4_ n5_; have n0_ := ak (blk_drew BK159.out); have n1_ := ak (blk_drew BK160.out); have n2_ := ak (blk_drew BK161.out); have n3_ := ak (blk_drew BK999.out); have n4_ := ak (blk_drew BK181.out); have n5_ := ak (below_drew1 HB.out); clear BK159; clear BK160; clear BK161; clear BK999; clear BK181; clear HB; have BK159 := n0_; have BK160 := n1_; have BK161 := n2_; have BK999 := n3_; have BK181 := n4_; have HB := n5_; clear n0_ n1_ n2_ n3_ n4_ n5_; have p182 : 0 ≤ (x77_3 : Int) := oda; have q182 : x77_3 < (l1_1.length : Int) := oda; obtain ⟨ad182, e182, hx182_0⟩ := Kd.at_int HR1_1.out x77_3 p182 q182; have hw182_0 := hx182_0; cases e182
              (try replace hx182_0 := hbc HB hx182_0)
              replace p182 := eq_true p182; replace q182 := eq_true q182
              refine start_ (n := 11) (S := fun w' => w'.cell? ⟨gb161, 0, none⟩ = some (.int .i64 x162000_3) ∧ w'.cell? ⟨gb181, 0, none⟩ = some (.int .i64 ((rd_T98 l0_1 x77_3).f0)) ∧ w'.cell? ⟨gb181, 1, none⟩ = some (.int .i64 ((rd_T98 l0_1 x77_3).f1)) ∧ w'.cell? ⟨gb181, 2, none⟩ = some (.int .i64 ((rd_T98 l0_1 x77_3).f2)) ∧ w'.cell? ⟨gb181, 3, none⟩ = some (.int .i64 ((rd_T98 l0_1 x77_3).f3)) ∧ w'.cell? ⟨gb160, 0, none⟩ = some (.slice A1_0 l1_0.length c1_0) ∧ w'.cell? ⟨gb160, 1, none⟩ = some (.slice (some ad182) l1_1.length c1_1) ∧ w'.cell? ⟨gb160, 2, none⟩ = some (.slice A1_2 l1_2.length c1_2) ∧ w'.cell? (ad182.add (x77_3).toNat) = some (.int .i64 (rd l1_1 x77_3))) (ds := [10]) #[F, F, F, F, F, F, F, F, F, F, F] (by kernel_rfl) rfl rfl ⟨(blk_cell BK161.out 0).trans rfl, (blk_cell BK181.out 0).trans rfl, (blk_cell BK181.out 1).trans rfl, (blk_cell BK181.out 2).trans rfl, (blk_cell BK181.out 3).trans rfl, (blk_cell BK160.out 0).trans rfl, (blk_cell BK160.out 1).trans rfl, (blk_cell BK160.out 2).trans rfl, ((HB.out.cell (World.block_lt_of_cell? w _ hw182_0)).trans hw182_0)⟩ (fun hHeld => ?_); refine with_tabW proof_Cheapest_1.tab15 proof_Cheapest_1.bits15 (fun HT_ HW_ => ?_)
              generalize w87.drew = w88 at BK159 BK160 BK161 BK999 BK181 HB hx182_0 hHeld ⊢
              refine pure_ (i := 1) (N := some 83) (v := ?_) (a' := ?_) #[F, T, F, F, F, F, F, F, F, F, F] rfl rfl (any_of HT_.out (by kernel_rfl)) (fun _ _ _ h => h) (Or.inl ⟨by rfl, ?_⟩) ?_ ?_; rotate_left; intro w'; go_simp; with_reducible rfl; rotate_left; simp only [Act.put, sA, sZ, sS, i64_w, i32_w]; rfl
              refine pure_ (i := 3) (N := some 85) (v := ?_) (a' := ?_) #[F, T, F, T, F, F, F, F, F, F, F] rfl rfl (any_of HT_.out (by kernel_rfl)) (fun _ _ _ h => h) (Or.inl ⟨by rfl, ?_⟩) ?_ ?_; rotate_left; intro w'; go_simp; with_reducible rfl; rotate_left; simp only [Act.put, sA, sZ, sS, i64_w, i32_w]; rfl
              refine pure_ (i := 5) (N := some 87) (v := ?_) (a' := ?_) #[F, T, F, T, F, T, F, F, F, F, F] rfl rfl (any_of HT_.out (by kernel_rfl)) (fun _ _ _ h => h) (Or.inl ⟨by rfl, ?_⟩) ?_ ?_; rotate_left; intro w'; go_simp; with_reducible rfl; rotate_left; simp only [Act.put, sA, sZ, sS, i64_w, i32_w]; rfl
              refine take_ (i := 0) (N := some 82) (v := ?_) (a' := ?_) #[T, T, F, T, F, T, F, F, F, F, F] rfl rfl (take_ofW HT_.out HW_.out (by kernel_rfl)) (fun _ _ _ h => h) (Or.inl ⟨by rfl, ?_⟩) hHeld ?_ ?_; rotate_left; rintro w' ⟨s0, s1, s2, s3, s4, s5, s6, s7, s8⟩; go_simp; with_reducible rfl; rotate_left; simp only [Act.put, sA, sZ, sS, i64_w, i32_w]; rfl
              refine take_ (i := 2) (N := some 84) (v := ?_) (a' := ?_) #[T, T, T, T, F, T, F, F, F, F, F] rfl rfl (take_ofW HT_.out HW_.out (by kernel_rfl)) (fun _ _ _ h => h) (Or.inl ⟨by rfl, ?_⟩) hHeld ?_ ?_; rotate_left; rintro w' ⟨s0, s1, s2, s3, s4, s5, s6, s7, s8⟩; go_simp; with_reducible rfl; rotate_left; simp only [Act.put, sA, sZ, sS, i64_w, i32_w]; rfl
              refine take_ (i := 4) (N := some 86) (v := ?_) (a' := ?_) #[T, T, T, T, T, T, F, F, F, F, F] rfl rfl (take_ofW HT_.out HW_.out (by kernel_rfl)) (fun _ _ _ h => h) (Or.inl ⟨by rfl, ?_⟩) hHeld ?_ ?_; rotate_left; rintro w' ⟨s0, s1, s2, s3, s4, s5, s6, s7, s8⟩; go_simp; with_reducible rfl; rotate_left; simp only [Act.put, sA, sZ, sS, i64_w, i32_w]; rfl
              refine pure_ (i := 6) (N := some 88) (v := ?_) (a' := ?_) #[T, T, T, T, T, T, T, F, F, F, F] rfl rfl (any_of HT_.out (by kernel_rfl)) (fun _ _ _ h => h) (Or.inl ⟨by rfl, ?_⟩) ?_ ?_; rotate_left; intro w'; go_simp; with_reducible rfl; rotate_left; simp only [Act.put, sA, sZ, sS, i64_w, i32_w]; rfl
              refine take_ (i := 7) (N := some 89) (v := ?_) (a' := ?_) #[T, T, T, T, T, T, T, T, F, F, F] rfl rfl (take_ofW HT_.out HW_.out (by kernel_rfl)) (fun _ _ _ h => h) (Or.inl ⟨by rfl, ?_⟩) hHeld ?_ ?_; rotate_left; rintro w' ⟨s0, s1, s2, s3, s4, s5, s6, s7, s8⟩; go_simp; with_reducible rfl; rotate_left; simp only [Act.put, sA, sZ, sS, i64_w, i32_w]; rfl
              refine pure_ (i := 8) (N := some 90) (v := ?_) (a' := ?_) #[T, T, T, T, T, T, T, T, T, F, F] rfl rfl (any_of HT_.out (by kernel_rfl)) (fun _ _ _ h => h) (Or.inl ⟨by rfl, ?_⟩) ?_ ?_; rotate_left; intro w'; go_simp; with_reducible rfl; rotate_left; simp only [Act.put, sA, sZ, sS, i64_w, i32_w]; rfl
              refine pure_ (i := 9) (N := some 91) (v := ?_) (a' := ?_) #[T, T, T, T, T, T, T, T, T, T, F] rfl rfl (any_of HT_.out (by kernel_rfl)) (fun _ _ _ h => h) (Or.inl ⟨by rfl, ?_⟩) ?_ ?_; rotate_left; intro w'; go_simp; with_reducible rfl; rotate_left; simp only [Act.put, sA, sZ, sS, i64_w, i32_w]; rfl
              refine last_ (i := 10) (N := none) #[T, T, T, T, T, T, T, T, T, T, T] rfl rfl (one_of HT_.out (by kernel_rfl)) (by decide) (fun K hK => ?_)
              have hs89 : w88.cell? ⟨gb161, 0, none⟩ = some (.int .i64 x162000_3) := (blk_cell BK161.out 0).trans rfl; have hfs89 := bf BK161 0; have hns89_0 := NB159_161.out; have hns89_1 := NB160_161.out; have hns89_3 := NB999_161.out; have hns89_4 := NB181_161.out; have hms89_0 := NB161_159.out; have hms89_1 := NB161_160.out; have hms89_3 := NB161_999.out; have hms89_4 := NB161_181.out
              refine skip_ (w1 := ?_) (by rfl) rfl ?_ ?_
              rotate_left
              ·
               go_simp
               rfl
              refine hK.out _ _ ?_
              clear hK K
              refine done_ (done_of HT_.out (by kernel_rfl)) ?_
              try go_wp2
              go_roundg k3
              case measure => have := HK1.out; have := HK2.out; have := HK3.out; omega
              case rel => exact ⟨(wrap64 (x77_3 + 1)), (wrap64 (x162000_3 + (wrap64 (((rd_T98 l0_1 x77_3).f3) * (rd l1_1 x77_3))))), (by first | rfl | (simp [*]; done)), H', ⟨by have := HK1.out; have := HK2.out; have := HK3.out; omega⟩, ⟨by (with_reducible repeat (first | refine blk_drewN ?_ _ | refine blk_drew ?_ | refine blk_alloc ?_ _)); refine blk_far ?_ NB159_161.out _; exact bx BK159.out⟩, ⟨by (with_reducible repeat (first | refine blk_drewN ?_ _ | refine blk_drew ?_ | refine blk_alloc ?_ _)); refine blk_far ?_ NB160_161.out _; exact bx BK160.out⟩, ⟨by (with_reducible repeat (first | refine blk_drewN ?_ _ | refine blk_drew ?_ | refine blk_alloc ?_ _)); refine blk_put (cs := #[.int .i64 x162000_3]) ?_ 0 _ rfl; exact bx BK161.out⟩, ⟨by (with_reducible repeat (first | refine blk_drewN ?_ _ | refine blk_drew ?_ | refine blk_alloc ?_ _)); refine blk_far ?_ NB999_161.out _; exact bx BK999.out⟩, ⟨lb⟩⟩
             ·
              rw [if_neg c77] at H; have c77b0 : decide (x77_3 < (l0_1.length : Int)) = false := decide_eq_false c77; clear c77
              simp only [Option.some.injEq, Prod.mk.injEq] at H
              obtain ⟨rfl, rfl⟩ := H
              go_wp2
              first | go_end0 | ((try simp only [Exit.inBlock, Exit.then]); refine bodyPost_ret (results_none rfl _ _ _) rfl ?_)
              exact ⟨Gave.ok (by first | rfl | (simp <;> rfl)), (bx BK161.out), (bx BK999.out), lb⟩
       ·
        rw [if_neg c39] at H; have A38 := ak A380; clear A380
        simp only [Option.some.injEq, Prod.mk.injEq] at H
        obtain ⟨rfl, rfl⟩ := H; have hnb90 := NB159_160.out; have hnc90 := NB160_159.out; have hnb91 := NB159_161.out; have hnc91 := NB161_159.out; have hnb92 := NB159_999.out; have hnc92 := NB999_159.out; have hcz93_0 := bc0 BK159; have hcz93_1 := bc1 BK159; have hfz93_0 := bf BK159 0; have hfz93_1 := bf BK159 1; have hnb94 := NB160_161.out; have hnc94 := NB161_160.out; have hnb95 := NB160_999.out; have hnc95 := NB999_160.out; have hcz96_0 := bc0 BK160; have hcz96_1 := bc1 BK160; have hcz96_2 := bc2 BK160; have hfz96_0 := bf BK160 0; have hfz96_1 := bf BK160 1; have hfz96_2 := bf BK160 2
        go_wp2_with (first | ((with_reducible refine gate_callee (f := 62) rfl ?_); refine panicsL_ (some 37) rfl rfl Try.func62 (by kernel_rfl) rfl #[.agg #[.int .i64 a0_0, .slice A0_1 l0_1.length c0_1], .slice A1_2 l1_2.length c1_2, .int .i64 1] rfl (by (try simp only [List.map_toArray, List.map_cons, List.map_nil]); first | done | rfl | (simp only [List.length_drop, List.length_take]; rfl)) ?_; (with_reducible refine (proof_reduced.bad k1 a0_0 _ _ l0_1 _ _ l1_2 1 t170 t171 _ ?side1 ?side2 ?side3 ?side4 A38.out c39).mono ?_); (case side1 => exact Kd.C_below HR0_1.out lb); (case side2 => exact HC0_1.out); (case side3 => exact Kd.C_below HR1_2.out lb); (case side4 => exact HC1_2.out); rintro e w97 ⟨rfl, hb⟩; refine ⟨_, rfl, ?_⟩; (repeat (first | refine panic_then ?_ | refine panic_block ?_)); exact panic_body rfl (⟨Gave.no c39 rfl, blk_below (bx BK161.out) hb, blk_below (bx BK999.out) hb, below_step lb hb⟩)))
   ·
    rw [if_neg c9] at H; have A8 := ak A80; clear A80
    simp only [Option.some.injEq, Prod.mk.injEq] at H
    obtain ⟨rfl, rfl⟩ := H; have hnb98 := NB159_160.out; have hnc98 := NB160_159.out; have hnb99 := NB159_161.out; have hnc99 := NB161_159.out; have hnb100 := NB159_999.out; have hnc100 := NB999_159.out; have hcz101_0 := bc0 BK159; have hcz101_1 := bc1 BK159; have hfz101_0 := bf BK159 0; have hfz101_1 := bf BK159 1
    go_enter Try.func60, Try.ntmps60
    go_wp2_with (first | ((with_reducible refine gate_callee (f := 50) rfl ?_); refine goesZ (some 10) rfl rfl Try.func50 (by kernel_rfl) rfl #[.agg #[.int .i64 a0_0, .slice A0_1 l0_1.length c0_1]] rfl ?_; (with_reducible refine (proof_right.ok k a0_0 _ _ l0_1  _ ?side1 ?side2 A4.out).mono ?_); (case side1 => exact Kd.C_below HR0_1.out lb); (case side2 => exact HC0_1.out); rintro e w102 ⟨rfl, hb⟩; refine ⟨_, rfl, ?_⟩; have n0_ := ak (blk_below (bx BK159.out) hb); have n1_ := ak (blk_below (bx BK160.out) hb); have n2_ := ak (blk_below (bx BK161.out) hb); have n3_ := ak (blk_below (g := gbx) (o := .cells #[.int .i64 0] 30 (0, 0)) (bx BK999.out) hb); have n4_ := ak (below_step lb hb); clear BK159; clear BK160; clear BK161; clear BK999; clear HB; have BK159 := n0_; have BK160 := n1_; have BK161 := n2_; have BK999 := n3_; have HB := n4_; clear n0_ n1_ n2_ n3_ n4_; (try clear hb); (try clear hb2); (try clear hk); (try clear hi); have hcz103_0 := bc0 BK159; have hcz103_1 := bc1 BK159; have hfz103_0 := bf BK159 0; have hfz103_1 := bf BK159 1; have hnb104 := NB160_161.out; have hnc104 := NB161_160.out; have hnb105 := NB160_999.out; have hnc105 := NB999_160.out; have hcz106_0 := bc0 BK160; have hcz106_1 := bc1 BK160; have hcz106_2 := bc2 BK160; have hfz106_0 := bf BK160 0; have hfz106_1 := bf BK160 1; have hfz106_2 := bf BK160 2) | ((with_reducible refine gate_callee (f := 61) rfl ?_); refine goesZ (some 14) rfl rfl Try.func61 (by kernel_rfl) rfl #[.agg #[.int .i64 a0_0, .slice A0_1 l0_1.length c0_1], .slice A1_0 l1_0.length c1_0] rfl ?_; (with_reducible refine (proof_supplied.ok k a0_0 _ _ l0_1 _ _ l1_0  _ ?side1 ?side2 ?side3 ?side4 A6.out).mono ?_); (case side1 => exact Kd.C_below HR0_1.out lb); (case side2 => exact HC0_1.out); (case side3 => exact Kd.C_below HR1_0.out lb); (case side4 => exact HC1_0.out); rintro e w107 ⟨rfl, hb⟩; refine ⟨_, rfl, ?_⟩; have n0_ := ak (blk_below (bx BK159.out) hb); have n1_ := ak (blk_below (bx BK160.out) hb); have n2_ := ak (blk_below (bx BK161.out) hb); have n3_ := ak (blk_below (g := gbx) (o := .cells #[.int .i64 0] 30 (0, 0)) (bx BK999.out) hb); have n4_ := ak (below_step lb hb); clear BK159; clear BK160; clear BK161; clear BK999; clear HB; have BK159 := n0_; have BK160 := n1_; have BK161 := n2_; have BK999 := n3_; have HB := n4_; clear n0_ n1_ n2_ n3_ n4_; (try clear hb); (try clear hb2); (try clear hk); (try clear hi); have hcz108_0 := bc0 BK159; have hcz108_1 := bc1 BK159; have hfz108_0 := bf BK159 0; have hfz108_1 := bf BK159 1; have hcz109_0 := bc0 BK160; have hcz109_1 := bc1 BK160; have hcz109_2 := bc2 BK160; have hfz109_0 := bf BK160 0; have hfz109_1 := bf BK160 1; have hfz109_2 := bf BK160 2) | ((with_reducible refine gate_callee (f := 52) rfl ?_); refine panicsL_ (some 18) rfl rfl Try.func52 (by kernel_rfl) rfl #[.agg #[.int .i64 a0_0, .slice A0_1 l0_1.length c0_1], .slice A1_1 l1_1.length c1_1] rfl (by (try simp only [List.map_toArray, List.map_cons, List.map_nil]); first | done | rfl | (simp only [List.length_drop, List.length_take]; rfl)) ?_; (with_reducible refine (proof_carried.bad k a0_0 _ _ l0_1 _ _ l1_1 t164 t165 _ ?side1 ?side2 ?side3 ?side4 A8.out c9).mono ?_); (case side1 => exact Kd.C_below HR0_1.out lb); (case side2 => exact HC0_1.out); (case side3 => exact Kd.C_below HR1_1.out lb); (case side4 => exact HC1_1.out); rintro e w110 ⟨rfl, hb⟩; refine ⟨_, rfl, ?_⟩; (repeat (first | refine panic_then ?_ | refine panic_block ?_)); exact panic_body rfl (⟨Gave.no c9 rfl, blk_below (bx BK161.out) hb, blk_below (bx BK999.out) hb, below_step lb hb⟩)))
  ·
   rw [if_neg c7] at H; have A6 := ak A60; clear A60
   simp only [Option.some.injEq, Prod.mk.injEq] at H
   obtain ⟨rfl, rfl⟩ := H; have hnb111 := NB159_160.out; have hnc111 := NB160_159.out; have hnb112 := NB159_161.out; have hnc112 := NB161_159.out; have hnb113 := NB159_999.out; have hnc113 := NB999_159.out; have hcz114_0 := bc0 BK159; have hcz114_1 := bc1 BK159; have hfz114_0 := bf BK159 0; have hfz114_1 := bf BK159 1
   go_enter Try.func60, Try.ntmps60
   go_wp2_with (first | ((with_reducible refine gate_callee (f := 50) rfl ?_); refine goesZ (some 10) rfl rfl Try.func50 (by kernel_rfl) rfl #[.agg #[.int .i64 a0_0, .slice A0_1 l0_1.length c0_1]] rfl ?_; (with_reducible refine (proof_right.ok k a0_0 _ _ l0_1  _ ?side1 ?side2 A4.out).mono ?_); (case side1 => exact Kd.C_below HR0_1.out lb); (case side2 => exact HC0_1.out); rintro e w115 ⟨rfl, hb⟩; refine ⟨_, rfl, ?_⟩; have n0_ := ak (blk_below (bx BK159.out) hb); have n1_ := ak (blk_below (bx BK160.out) hb); have n2_ := ak (blk_below (bx BK161.out) hb); have n3_ := ak (blk_below (g := gbx) (o := .cells #[.int .i64 0] 30 (0, 0)) (bx BK999.out) hb); have n4_ := ak (below_step lb hb); clear BK159; clear BK160; clear BK161; clear BK999; clear HB; have BK159 := n0_; have BK160 := n1_; have BK161 := n2_; have BK999 := n3_; have HB := n4_; clear n0_ n1_ n2_ n3_ n4_; (try clear hb); (try clear hb2); (try clear hk); (try clear hi); have hcz116_0 := bc0 BK159; have hcz116_1 := bc1 BK159; have hfz116_0 := bf BK159 0; have hfz116_1 := bf BK159 1; have hnb117 := NB160_161.out; have hnc117 := NB161_160.out; have hnb118 := NB160_999.out; have hnc118 := NB999_160.out; have hcz119_0 := bc0 BK160; have hcz119_1 := bc1 BK160; have hcz119_2 := bc2 BK160; have hfz119_0 := bf BK160 0; have hfz119_1 := bf BK160 1; have hfz119_2 := bf BK160 2) | ((with_reducible refine gate_callee (f := 61) rfl ?_); refine panicsL_ (some 14) rfl rfl Try.func61 (by kernel_rfl) rfl #[.agg #[.int .i64 a0_0, .slice A0_1 l0_1.length c0_1], .slice A1_0 l1_0.length c1_0] rfl (by (try simp only [List.map_toArray, List.map_cons, List.map_nil]); first | done | rfl | (simp only [List.length_drop, List.length_take]; rfl)) ?_; (with_reducible refine (proof_supplied.bad k a0_0 _ _ l0_1 _ _ l1_0 t163 _ ?side1 ?side2 ?side3 ?side4 A6.out c7).mono ?_); (case side1 => exact Kd.C_below HR0_1.out lb); (case side2 => exact HC0_1.out); (case side3 => exact Kd.C_below HR1_0.out lb); (case side4 => exact HC1_0.out); rintro e w120 ⟨rfl, hb⟩; refine ⟨_, rfl, ?_⟩; (repeat (first | refine panic_then ?_ | refine panic_block ?_)); exact panic_body rfl (⟨Gave.no c7 rfl, blk_below (bx BK161.out) hb, blk_below (bx BK999.out) hb, below_step lb hb⟩)))
 ·
  rw [if_neg c5] at H; have A4 := ak A40; clear A40
  simp only [Option.some.injEq, Prod.mk.injEq] at H
  obtain ⟨rfl, rfl⟩ := H; have hnb121 := NB159_160.out; have hnc121 := NB160_159.out; have hnb122 := NB159_161.out; have hnc122 := NB161_159.out; have hnb123 := NB159_999.out; have hnc123 := NB999_159.out; have hcz124_0 := bc0 BK159; have hcz124_1 := bc1 BK159; have hfz124_0 := bf BK159 0; have hfz124_1 := bf BK159 1
  go_enter Try.func60, Try.ntmps60
  go_wp2_with (first | ((with_reducible refine gate_callee (f := 50) rfl ?_); refine panicsL_ (some 10) rfl rfl Try.func50 (by kernel_rfl) rfl #[.agg #[.int .i64 a0_0, .slice A0_1 l0_1.length c0_1]] rfl (by (try simp only [List.map_toArray, List.map_cons, List.map_nil]); first | done | rfl | (simp only [List.length_drop, List.length_take]; rfl)) ?_; (with_reducible refine (proof_right.bad k a0_0 _ _ l0_1 t162 _ ?side1 ?side2 A4.out c5).mono ?_); (case side1 => exact Kd.C_below HR0_1.out lb); (case side2 => exact HC0_1.out); rintro e w125 ⟨rfl, hb⟩; refine ⟨_, rfl, ?_⟩; (repeat (first | refine panic_then ?_ | refine panic_block ?_)); exact panic_body rfl (⟨Gave.no c5 rfl, blk_below (bx BK161.out) hb, blk_below (bx BK999.out) hb, below_step lb hb⟩)))

end Go.Proofs.Ytkdoihcjhccliaa.Q
