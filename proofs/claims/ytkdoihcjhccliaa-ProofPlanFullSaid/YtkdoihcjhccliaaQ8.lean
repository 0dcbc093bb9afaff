import Derived.Test.YtkdoihcjhccliaaQ0
import Derived.Test.YtkdoihcjhccliaaQ3
import Derived.Test.YtkdoihcjhccliaaQ5
import Derived.Test.YtkdoihcjhccliaaQ6
import Derived.Test.YtkdoihcjhccliaaQ7
namespace Go.Proofs.Ytkdoihcjhccliaa.Q
open Go.RowKit Go.Proofs.YtkdoihcjhccliaaW.PrintWords Go.Proofs.YtkdoihcjhccliaaW.PrintLast Go.Proofs.YtkdoihcjhccliaaW.PrintMore
attribute [local go_sem] max2_int min2_int max_two min_two max_three min_three max_four min_four   -- for this text's walks alone
set_option linter.unusedVariables false
set_option linter.unusedSimpArgs false

/-! ### proof_Max_1: function 49 -/
def proof_Max_1.l0 : Nat → List Int → Int → List Int → Int → Int → Int → Int → List Int → List Bool → Int → Option (Int × Int)
  | 0, _, _, _, _, _, _, _, _, _, _ => none
  | k + 1, x3, x4, x46, x47, x48, x133000, x133001, x133002, x133003, x134000 => if x48 < x47 then (if 0 ≤ x48 then (if x48 < (x46.length : Int) then (if (rd x46 x48) = 0 then (proof_Max_1.l0 k x3 x4 x46 x47 (wrap64 (x48 + 1)) x133000 x133001 x133002 x133003 x134000) else (if x48 = x133000 then (proof_Max_1.l0 k x3 x4 x46 x47 (wrap64 (x48 + 1)) x133000 x133001 x133002 x133003 x134000) else (if x48 = x133001 then (proof_Max_1.l0 k x3 x4 x46 x47 (wrap64 (x48 + 1)) x133000 x133001 x133002 x133003 x134000) else (some (221, x134000))))) else (none)) else (none)) else (if 0 ≤ x133000 then (if x133000 < (x133003.length : Int) then (if rdOf false x133003 x133000 = true then (if 0 ≤ x133001 then (if x133001 < (x133003.length : Int) then (if rdOf false x133003 x133001 = true then (some (221, x134000)) else (if x133000 < (x3.length : Int) then (if (rd x3 x133000) = x4 then (some (0, x4)) else (some (221, x134000))) else (none))) else (none)) else (none)) else (some (221, x134000))) else (none)) else (none))
def proof_Max_1.f (k : Nat) (a0_0 : Int) (l0_1 : List (S98)) (a1_0 : Int) (a1_1 : Int) (l1_2 : List Int) (l1_3 : List Bool) (a2 : Int) : Option (Int × Int) := (proof_right.f k a0_0 l0_1).bind fun t134 => (if t134 = 0 then (if a1_0 ≥ 0 then (if a1_0 < a0_0 then (if a1_1 ≥ 0 then (if a1_1 < a0_0 then (if a1_0 = a1_1 then (some (120, a2)) else ((proof_carried.f k a0_0 l0_1 l1_2).bind fun bt135 => (if bt135.1 = 0 then ((proof_across.f k a0_0 l0_1 l1_3).bind fun bt139 => (if bt139.1 = 0 then (proof_Max_1.l0 k bt135.2 bt139.2 bt135.2 (bt135.2.length : Int) 0 a1_0 a1_1 l1_2 l1_3 a2) else (some (bt139.1, a2)))) else (some (bt135.1, a2))))) else (some (30, a2))) else (some (30, a2))) else (some (30, a2))) else (some (30, a2))) else (some (t134, a2)))
set_option maxHeartbeats 8000000 in
set_option maxRecDepth 100000 in
theorem proof_Max_1.calls (k : Nat) (a0_0 : Int) (A0_1 : Option Addr) (c0_1 : Nat) (l0_1 : List (S98)) (a1_0 : Int) (a1_1 : Int) (A1_2 : Option Addr) (c1_2 : Nat) (l1_2 : List Int) (A1_3 : Option Addr) (c1_3 : Nat) (l1_3 : List Bool) (a2 : Int) (r1 : Int) (r2 : Int) (w wc0 : World) (gb131 gb132 gb133 gbx : Nat) (hr0_1 : Kd.C k98 w A0_1 l0_1.length l0_1) (hc0_1 : l0_1.length ≤ c0_1) (hr1_2 : Kd.C (Kd.int .i64) w A1_2 l1_2.length l1_2) (hc1_2 : l1_2.length ≤ c1_2) (hr1_3 : Kd.C Kd.bool w A1_3 l1_3.length l1_3) (hc1_3 : l1_3.length ≤ c1_3) (hB : Below w.heap.size w wc0) (hb0_ : wc0.heap[gb131]? = some (.cells #[.int .i64 a0_0, .slice A0_1 l0_1.length c0_1] 24 (0, 0))) (hg0_ : w.heap.size ≤ gb131) (hb1_ : wc0.heap[gb132]? = some (.cells #[.int .i64 a1_0, .int .i64 a1_1, .slice A1_2 l1_2.length c1_2, .slice A1_3 l1_3.length c1_3] 28 (0, 0))) (hg1_ : w.heap.size ≤ gb132) (hb2_ : wc0.heap[gb133]? = some (.cells #[.int .i64 a2] 2 (0, 0))) (hg2_ : w.heap.size ≤ gb133) (hb3_ : wc0.heap[gbx]? = some (.cells #[.int .i64 0] 30 (0, 0))) (hg3_ : w.heap.size ≤ gbx) (hn0_1_ : gb131 ≠ gb132) (hn0_2_ : gb131 ≠ gb133) (hn0_3_ : gb131 ≠ gbx) (hn1_2_ : gb132 ≠ gb133) (hn1_3_ : gb132 ≠ gbx) (hn2_3_ : gb133 ≠ gbx) (h : proof_Max_1.f k a0_0 l0_1 a1_0 a1_1 l1_2 l1_3 a2 = some (r1, r2)) :
    Calls Try.prog 49 #[.pointer (some ⟨gb131, 0, none⟩), .pointer (some ⟨gb132, 0, none⟩), .pointer (some ⟨gb133, 0, none⟩)] wc0 fun e w' => Gave r1 (e = .returned (.tuple #[])) (e = gave r1) ∧ w'.heap[gb133]? = some (.cells #[.int .i64 r2] 2 (0, 0)) ∧ w'.heap[gbx]? = some (.cells #[.int .i64 0] 30 (0, 0)) ∧ Below w.heap.size w w' := by
 have hu24 := Try.underlying24; have HR0_1 := ak hr0_1; have HC0_1 := ak hc0_1; clear hr0_1 hc0_1; have HR1_2 := ak hr1_2; have HC1_2 := ak hc1_2; clear hr1_2 hc1_2; have HR1_3 := ak hr1_3; have HC1_3 := ak hc1_3; clear hr1_3 hc1_3; have HB := ak hB; clear hB; have BK131 := ak hb0_; have GW131 := ak hg0_; have GE131 := ak hg0_; have BK132 := ak hb1_; have GW132 := ak hg1_; have GE132 := ak hg1_; have BK133 := ak hb2_; have GW133 := ak hg2_; have GE133 := ak hg2_; have BK999 := ak hb3_; have GW999 := ak hg3_; have GE999 := ak hg3_; have NB131_132 := ak hn0_1_; have NB132_131 := ak hn0_1_.symm; have NB131_133 := ak hn0_2_; have NB133_131 := ak hn0_2_.symm; have NB131_999 := ak hn0_3_; have NB999_131 := ak hn0_3_.symm; have NB132_133 := ak hn1_2_; have NB133_132 := ak hn1_2_.symm; have NB132_999 := ak hn1_3_; have NB999_132 := ak hn1_3_.symm; have NB133_999 := ak hn2_3_; have NB999_133 := ak hn2_3_.symm; clear hb0_ hg0_ hb1_ hg1_ hb2_ hg2_ hb3_ hg3_ hn0_1_ hn0_2_ hn0_3_ hn1_2_ hn1_3_ hn2_3_
 have H : ((proof_right.f k a0_0 l0_1).bind fun t134 => (if t134 = 0 then (if a1_0 ≥ 0 then (if a1_0 < a0_0 then (if a1_1 ≥ 0 then (if a1_1 < a0_0 then (if a1_0 = a1_1 then (some (120, a2)) else ((proof_carried.f k a0_0 l0_1 l1_2).bind fun bt135 => (if bt135.1 = 0 then ((proof_across.f k a0_0 l0_1 l1_3).bind fun bt139 => (if bt139.1 = 0 then (proof_Max_1.l0 k bt135.2 bt139.2 bt135.2 (bt135.2.length : Int) 0 a1_0 a1_1 l1_2 l1_3 a2) else (some (bt139.1, a2)))) else (some (bt135.1, a2))))) else (some (30, a2))) else (some (30, a2))) else (some (30, a2))) else (some (30, a2))) else (some (t134, a2)))) = some (r1, r2) := h; clear h; replace H := Option.bind_eq_some_iff.mp H; obtain ⟨t134, A40, H⟩ := H
 by_cases c5 : t134 = 0
 rotate_left
 ·
  rw [if_neg c5] at H; have A4 := ak A40; clear A40
  simp only [Option.some.injEq, Prod.mk.injEq] at H
  obtain ⟨rfl, rfl⟩ := H; have ⟨_, _⟩ := nn NB131_132; have ⟨_, _⟩ := nn NB131_133; have ⟨_, _⟩ := nn NB131_999; have ⟨_, _, _, _⟩ := cf2 BK131
  go_enter Try.func49, Try.ntmps49
  go_wp2_with (first | ((with_reducible refine gate_callee (f := 50) rfl ?_); refine pl 8 Try.func50 #[.agg #[.int .i64 a0_0, .slice A0_1 l0_1.length c0_1]] ?_; (with_reducible refine (proof_right.bad k a0_0 _ _ l0_1 t134 _ (Kd.C_below HR0_1.out lb) HC0_1.out A4.out c5).mono ?_); rintro e w153 ⟨rfl, hb⟩; refine ⟨_, rfl, ?_⟩; (repeat (first | refine panic_then ?_ | refine panic_block ?_)); exact panic_body rfl (⟨Gave.no c5 rfl, blk_below (bx BK133.out) hb, blk_below (bx BK999.out) hb, below_step lb hb⟩)))

 subst c5
 replace H := ip H; have A4 := ak A40; clear A40
 by_cases c6 : a1_0 ≥ 0
 rotate_left
 ·
  rw [if_neg c6] at H; have c6b0 := decide_eq_false c6; clear c6
  simp only [Option.some.injEq, Prod.mk.injEq] at H
  obtain ⟨rfl, rfl⟩ := H; have ⟨_, _⟩ := nn NB131_132; have ⟨_, _⟩ := nn NB131_133; have ⟨_, _⟩ := nn NB131_999; have ⟨_, _, _, _⟩ := cf2 BK131
  go_enter Try.func49, Try.ntmps49
  go_wp2_with (first | ((with_reducible refine gate_callee (f := 50) rfl ?_); refine gl 8 Try.func50 #[.agg #[.int .i64 a0_0, .slice A0_1 l0_1.length c0_1]] ?_; (with_reducible refine (proof_right.ok k a0_0 _ _ l0_1  _ (Kd.C_below HR0_1.out lb) HC0_1.out A4.out).mono ?_); rintro e w145 ⟨rfl, hb⟩; refine ⟨_, rfl, ?_⟩; have n_ := a5 (bo BK131 hb) (bo BK132 hb) (bo BK133 hb) (blk_below (g := gbx) (o := .cells #[.int .i64 0] 30 (0, 0)) (bx BK999.out) hb) (bl hb); clear BK131 BK132 BK133 BK999 HB; obtain ⟨BK131, BK132, BK133, BK999, HB⟩ := n_; clear hb; have ⟨_, _⟩ := nn NB132_133; have ⟨_, _⟩ := nn NB132_999; have ⟨_, _, _, _, _, _, _, _⟩ := cf4 BK132) | ((with_reducible refine gate_callee (f := 51) rfl ?_); refine pl 31 Try.func51 #[.bool false, .int .i64 30] ?_; refine (proof_need.bad 30 _).mono ?_; rintro e w' ⟨rfl, rfl⟩; refine ⟨_, rfl, ?_⟩; (repeat (first | refine panic_then ?_ | refine panic_block ?_)); exact panic_body rfl (⟨Gave.no da rfl, (bx BK133.out), (bx BK999.out), lb⟩)))
 rw [if_pos c6] at H; have c6b0 := decide_eq_true c6; clear c6
 by_cases c7 : a1_0 < a0_0
 rotate_left
 ·
  rw [if_neg c7] at H; have c7b0 := decide_eq_false c7; clear c7
  simp only [Option.some.injEq, Prod.mk.injEq] at H
  obtain ⟨rfl, rfl⟩ := H; have ⟨_, _⟩ := nn NB131_132; have ⟨_, _⟩ := nn NB131_133; have ⟨_, _⟩ := nn NB131_999; have ⟨_, _, _, _⟩ := cf2 BK131
  go_enter Try.func49, Try.ntmps49
  go_wp2_with (first | ((with_reducible refine gate_callee (f := 50) rfl ?_); refine gl 8 Try.func50 #[.agg #[.int .i64 a0_0, .slice A0_1 l0_1.length c0_1]] ?_; (with_reducible refine (proof_right.ok k a0_0 _ _ l0_1  _ (Kd.C_below HR0_1.out lb) HC0_1.out A4.out).mono ?_); rintro e w136 ⟨rfl, hb⟩; refine ⟨_, rfl, ?_⟩; have n_ := a5 (bo BK131 hb) (bo BK132 hb) (bo BK133 hb) (blk_below (g := gbx) (o := .cells #[.int .i64 0] 30 (0, 0)) (bx BK999.out) hb) (bl hb); clear BK131 BK132 BK133 BK999 HB; obtain ⟨BK131, BK132, BK133, BK999, HB⟩ := n_; clear hb; have ⟨_, _⟩ := nn NB132_133; have ⟨_, _⟩ := nn NB132_999; have ⟨_, _, _, _, _, _, _, _⟩ := cf4 BK132; have ⟨_, _, _, _⟩ := cf2 BK131) | ((with_reducible refine gate_callee (f := 51) rfl ?_); refine pl 31 Try.func51 #[.bool false, .int .i64 30] ?_; refine (proof_need.bad 30 _).mono ?_; rintro e w' ⟨rfl, rfl⟩; refine ⟨_, rfl, ?_⟩; (repeat (first | refine panic_then ?_ | refine panic_block ?_)); exact panic_body rfl (⟨Gave.no da rfl, (bx BK133.out), (bx BK999.out), lb⟩)))
 rw [if_pos c7] at H; have c7b0 := decide_eq_true c7; clear c7
 by_cases c8 : a1_1 ≥ 0
 rotate_left
 ·
  rw [if_neg c8] at H; have c8b0 := decide_eq_false c8; clear c8
  simp only [Option.some.injEq, Prod.mk.injEq] at H
  obtain ⟨rfl, rfl⟩ := H; have ⟨_, _⟩ := nn NB131_132; have ⟨_, _⟩ := nn NB131_133; have ⟨_, _⟩ := nn NB131_999; have ⟨_, _, _, _⟩ := cf2 BK131
  go_enter Try.func49, Try.ntmps49
  go_wp2_with (first | ((with_reducible refine gate_callee (f := 50) rfl ?_); refine gl 8 Try.func50 #[.agg #[.int .i64 a0_0, .slice A0_1 l0_1.length c0_1]] ?_; (with_reducible refine (proof_right.ok k a0_0 _ _ l0_1  _ (Kd.C_below HR0_1.out lb) HC0_1.out A4.out).mono ?_); rintro e w127 ⟨rfl, hb⟩; refine ⟨_, rfl, ?_⟩; have n_ := a5 (bo BK131 hb) (bo BK132 hb) (bo BK133 hb) (blk_below (g := gbx) (o := .cells #[.int .i64 0] 30 (0, 0)) (bx BK999.out) hb) (bl hb); clear BK131 BK132 BK133 BK999 HB; obtain ⟨BK131, BK132, BK133, BK999, HB⟩ := n_; clear hb; have ⟨_, _⟩ := nn NB132_133; have ⟨_, _⟩ := nn NB132_999; have ⟨_, _, _, _, _, _, _, _⟩ := cf4 BK132; have ⟨_, _, _, _⟩ := cf2 BK131) | ((with_reducible refine gate_callee (f := 51) rfl ?_); refine pl 31 Try.func51 #[.bool false, .int .i64 30] ?_; refine (proof_need.bad 30 _).mono ?_; rintro e w' ⟨rfl, rfl⟩; refine ⟨_, rfl, ?_⟩; (repeat (first | refine panic_then ?_ | refine panic_block ?_)); exact panic_body rfl (⟨Gave.no da rfl, (bx BK133.out), (bx BK999.out), lb⟩)))
 rw [if_pos c8] at H; have c8b0 := decide_eq_true c8; clear c8
 by_cases c9 : a1_1 < a0_0
 rotate_left
 ·
  rw [if_neg c9] at H; have c9b0 := decide_eq_false c9; clear c9
  simp only [Option.some.injEq, Prod.mk.injEq] at H
  obtain ⟨rfl, rfl⟩ := H; have ⟨_, _⟩ := nn NB131_132; have ⟨_, _⟩ := nn NB131_133; have ⟨_, _⟩ := nn NB131_999; have ⟨_, _, _, _⟩ := cf2 BK131
  go_enter Try.func49, Try.ntmps49
  go_wp2_with (first | ((with_reducible refine gate_callee (f := 50) rfl ?_); refine gl 8 Try.func50 #[.agg #[.int .i64 a0_0, .slice A0_1 l0_1.length c0_1]] ?_; (with_reducible refine (proof_right.ok k a0_0 _ _ l0_1  _ (Kd.C_below HR0_1.out lb) HC0_1.out A4.out).mono ?_); rintro e w118 ⟨rfl, hb⟩; refine ⟨_, rfl, ?_⟩; have n_ := a5 (bo BK131 hb) (bo BK132 hb) (bo BK133 hb) (blk_below (g := gbx) (o := .cells #[.int .i64 0] 30 (0, 0)) (bx BK999.out) hb) (bl hb); clear BK131 BK132 BK133 BK999 HB; obtain ⟨BK131, BK132, BK133, BK999, HB⟩ := n_; clear hb; have ⟨_, _⟩ := nn NB132_133; have ⟨_, _⟩ := nn NB132_999; have ⟨_, _, _, _, _, _, _, _⟩ := cf4 BK132; have ⟨_, _, _, _⟩ := cf2 BK131) | ((with_reducible refine gate_callee (f := 51) rfl ?_); refine pl 31 Try.func51 #[.bool false, .int .i64 30] ?_; refine (proof_need.bad 30 _).mono ?_; rintro e w' ⟨rfl, rfl⟩; refine ⟨_, rfl, ?_⟩; (repeat (first | refine panic_then ?_ | refine panic_block ?_)); exact panic_body rfl (⟨Gave.no da rfl, (bx BK133.out), (bx BK999.out), lb⟩)))
 rw [if_pos c9] at H; have c9b0 := decide_eq_true c9; clear c9; have A10 := ak (show proof_need.f true 30 = some () from rfl)
 by_cases c11 : a1_0 = a1_1
 ·
  rw [if_pos c11] at H; have c11b := be2 c11; clear c11
  simp only [Option.some.injEq, Prod.mk.injEq] at H
  obtain ⟨rfl, rfl⟩ := H; have ⟨_, _⟩ := nn NB131_132; have ⟨_, _⟩ := nn NB131_133; have ⟨_, _⟩ := nn NB131_999; have ⟨_, _, _, _⟩ := cf2 BK131
  go_enter Try.func49, Try.ntmps49
  go_wp2_with (first | ((with_reducible refine gate_callee (f := 50) rfl ?_); refine gl 8 Try.func50 #[.agg #[.int .i64 a0_0, .slice A0_1 l0_1.length c0_1]] ?_; (with_reducible refine (proof_right.ok k a0_0 _ _ l0_1  _ (Kd.C_below HR0_1.out lb) HC0_1.out A4.out).mono ?_); rintro e w16 ⟨rfl, hb⟩; refine ⟨_, rfl, ?_⟩; have n_ := a5 (bo BK131 hb) (bo BK132 hb) (bo BK133 hb) (blk_below (g := gbx) (o := .cells #[.int .i64 0] 30 (0, 0)) (bx BK999.out) hb) (bl hb); clear BK131 BK132 BK133 BK999 HB; obtain ⟨BK131, BK132, BK133, BK999, HB⟩ := n_; clear hb; have ⟨_, _⟩ := nn NB132_133; have ⟨_, _⟩ := nn NB132_999; have ⟨_, _, _, _, _, _, _, _⟩ := cf4 BK132; have ⟨_, _, _, _⟩ := cf2 BK131) | ((with_reducible refine gate_callee (f := 51) rfl ?_); refine gl 31 Try.func51 #[.bool true, .int .i64 30] ?_; (with_reducible refine (proof_need.calls true 30  _ A10.out).mono ?_); rintro e w' ⟨rfl, ⟨nd, rfl⟩⟩; refine ⟨_, rfl, ?_⟩) | ((with_reducible refine gate_callee (f := 51) rfl ?_); refine pl 37 Try.func51 #[.bool false, .int .i64 120] ?_; refine (proof_need.bad 120 _).mono ?_; rintro e w' ⟨rfl, rfl⟩; refine ⟨_, rfl, ?_⟩; (repeat (first | refine panic_then ?_ | refine panic_block ?_)); exact panic_body rfl (⟨Gave.no da rfl, (bx BK133.out), (bx BK999.out), lb⟩)))
 rw [if_neg c11] at H; have c11b := bn2 c11; have A21 := ak (show proof_need.f true 120 = some () from rfl); replace H := Option.bind_eq_some_iff.mp H; obtain ⟨⟨t135, t136⟩, A220, H⟩ := H; dsimp only at H
 by_cases c23 : t135 = 0
 rotate_left
 ·
  rw [if_neg c23] at H; have A22 := ak A220; clear A220
  simp only [Option.some.injEq, Prod.mk.injEq] at H
  obtain ⟨rfl, rfl⟩ := H; have ⟨_, _⟩ := nn NB131_132; have ⟨_, _⟩ := nn NB131_133; have ⟨_, _⟩ := nn NB131_999; have ⟨_, _, _, _⟩ := cf2 BK131
  go_enter Try.func49, Try.ntmps49
  go_wp2_with (first | ((with_reducible refine gate_callee (f := 50) rfl ?_); refine gl 8 Try.func50 #[.agg #[.int .i64 a0_0, .slice A0_1 l0_1.length c0_1]] ?_; (with_reducible refine (proof_right.ok k a0_0 _ _ l0_1  _ (Kd.C_below HR0_1.out lb) HC0_1.out A4.out).mono ?_); rintro e w108 ⟨rfl, hb⟩; refine ⟨_, rfl, ?_⟩; have n_ := a5 (bo BK131 hb) (bo BK132 hb) (bo BK133 hb) (blk_below (g := gbx) (o := .cells #[.int .i64 0] 30 (0, 0)) (bx BK999.out) hb) (bl hb); clear BK131 BK132 BK133 BK999 HB; obtain ⟨BK131, BK132, BK133, BK999, HB⟩ := n_; clear hb; have ⟨_, _⟩ := nn NB132_133; have ⟨_, _⟩ := nn NB132_999; have ⟨_, _, _, _, _, _, _, _⟩ := cf4 BK132; have ⟨_, _, _, _⟩ := cf2 BK131) | ((with_reducible refine gate_callee (f := 51) rfl ?_); refine gl 31 Try.func51 #[.bool true, .int .i64 30] ?_; (with_reducible refine (proof_need.calls true 30  _ A10.out).mono ?_); rintro e w' ⟨rfl, ⟨nd, rfl⟩⟩; refine ⟨_, rfl, ?_⟩) | ((with_reducible refine gate_callee (f := 51) rfl ?_); refine gl 37 Try.func51 #[.bool true, .int .i64 120] ?_; (with_reducible refine (proof_need.calls true 120  _ A21.out).mono ?_); rintro e w' ⟨rfl, ⟨nd, rfl⟩⟩; refine ⟨_, rfl, ?_⟩) | ((with_reducible refine gate_callee (f := 52) rfl ?_); refine pl 41 Try.func52 #[.agg #[.int .i64 a0_0, .slice A0_1 l0_1.length c0_1], .slice A1_2 l1_2.length c1_2] ?_; (with_reducible refine (proof_carried.bad k a0_0 _ _ l0_1 _ _ l1_2 t135 t136 _ (Kd.C_below HR0_1.out lb) HC0_1.out (Kd.C_below HR1_2.out lb) HC1_2.out A22.out c23).mono ?_); rintro e w113 ⟨rfl, hb⟩; refine ⟨_, rfl, ?_⟩; (repeat (first | refine panic_then ?_ | refine panic_block ?_)); exact panic_body rfl (⟨Gave.no c23 rfl, blk_below (bx BK133.out) hb, blk_below (bx BK999.out) hb, below_step lb hb⟩)))
 subst c23
 replace H := ip H; have A22 := ak A220; clear A220; replace H := Option.bind_eq_some_iff.mp H; obtain ⟨⟨t139, t140⟩, A240, H⟩ := H; dsimp only at H
 by_cases c25 : t139 = 0
 rotate_left
 ·
  rw [if_neg c25] at H; have A24 := ak A240; clear A240
  simp only [Option.some.injEq, Prod.mk.injEq] at H
  obtain ⟨rfl, rfl⟩ := H; have ⟨_, _⟩ := nn NB131_132; have ⟨_, _⟩ := nn NB131_133; have ⟨_, _⟩ := nn NB131_999; have ⟨_, _, _, _⟩ := cf2 BK131
  go_enter Try.func49, Try.ntmps49
  go_wp2_with (first | ((with_reducible refine gate_callee (f := 50) rfl ?_); refine gl 8 Try.func50 #[.agg #[.int .i64 a0_0, .slice A0_1 l0_1.length c0_1]] ?_; (with_reducible refine (proof_right.ok k a0_0 _ _ l0_1  _ (Kd.C_below HR0_1.out lb) HC0_1.out A4.out).mono ?_); rintro e w95 ⟨rfl, hb⟩; refine ⟨_, rfl, ?_⟩; have n_ := a5 (bo BK131 hb) (bo BK132 hb) (bo BK133 hb) (blk_below (g := gbx) (o := .cells #[.int .i64 0] 30 (0, 0)) (bx BK999.out) hb) (bl hb); clear BK131 BK132 BK133 BK999 HB; obtain ⟨BK131, BK132, BK133, BK999, HB⟩ := n_; clear hb; have ⟨_, _⟩ := nn NB132_133; have ⟨_, _⟩ := nn NB132_999; have ⟨_, _, _, _, _, _, _, _⟩ := cf4 BK132; have ⟨_, _, _, _⟩ := cf2 BK131) | ((with_reducible refine gate_callee (f := 51) rfl ?_); refine gl 31 Try.func51 #[.bool true, .int .i64 30] ?_; (with_reducible refine (proof_need.calls true 30  _ A10.out).mono ?_); rintro e w' ⟨rfl, ⟨nd, rfl⟩⟩; refine ⟨_, rfl, ?_⟩) | ((with_reducible refine gate_callee (f := 51) rfl ?_); refine gl 37 Try.func51 #[.bool true, .int .i64 120] ?_; (with_reducible refine (proof_need.calls true 120  _ A21.out).mono ?_); rintro e w' ⟨rfl, ⟨nd, rfl⟩⟩; refine ⟨_, rfl, ?_⟩) | ((with_reducible refine gate_callee (f := 52) rfl ?_); refine gl 41 Try.func52 #[.agg #[.int .i64 a0_0, .slice A0_1 l0_1.length c0_1], .slice A1_2 l1_2.length c1_2] ?_; (with_reducible refine (proof_carried.ok k a0_0 _ _ l0_1 _ _ l1_2 t136 _ (Kd.C_below HR0_1.out lb) HC0_1.out (Kd.C_below HR1_2.out lb) HC1_2.out A22.out).mono ?_); rintro e w100 ⟨v137, rfl, ho0, hb⟩; refine ⟨_, rfl, ?_⟩; have n_ := a6 (Kd.R_lower (Kd.R_newB ho0 (g := gb133) (o := .cells #[.int .i64 a2] 2 (0, 0)) (bx BK133.out)) (below_size lb)) (bo BK131 hb) (bo BK132 hb) (bo BK133 hb) (blk_below (g := gbx) (o := .cells #[.int .i64 0] 30 (0, 0)) (bx BK999.out) hb) (bl hb); clear BK131 BK132 BK133 BK999 HB; obtain ⟨HO138, BK131, BK132, BK133, BK999, HB⟩ := n_; clear hb; (try clear ho0); have ⟨_, _, _, _⟩ := cf2 BK131; have ⟨_, _, _, _, _, _, _, _⟩ := cf4 BK132) | ((with_reducible refine gate_callee (f := 53) rfl ?_); refine pl 45 Try.func53 #[.agg #[.int .i64 a0_0, .slice A0_1 l0_1.length c0_1], .slice A1_3 l1_3.length c1_3] ?_; (with_reducible refine (proof_across.bad k a0_0 _ _ l0_1 _ _ l1_3 t139 t140 _ (Kd.C_below HR0_1.out lb) HC0_1.out (Kd.C_below HR1_3.out lb) HC1_3.out A24.out c25).mono ?_); rintro e w103 ⟨rfl, hb⟩; refine ⟨_, rfl, ?_⟩; (repeat (first | refine panic_then ?_ | refine panic_block ?_)); exact panic_body rfl (⟨Gave.no c25 rfl, blk_below (bx BK133.out) hb, blk_below (bx BK999.out) hb, below_step lb hb⟩)))
 subst c25
 replace H := ip H; have A24 := ak A240; clear A240; have H' := ak H; clear H; have ⟨_, _⟩ := nn NB131_132; have ⟨_, _⟩ := nn NB131_133; have ⟨_, _⟩ := nn NB131_999; have ⟨_, _, _, _⟩ := cf2 BK131
 go_enter Try.func49, Try.ntmps49
 go_wp2_with (first | ((with_reducible refine gate_callee (f := 50) rfl ?_); refine gl 8 Try.func50 #[.agg #[.int .i64 a0_0, .slice A0_1 l0_1.length c0_1]] ?_; (with_reducible refine (proof_right.ok k a0_0 _ _ l0_1  _ (Kd.C_below HR0_1.out lb) HC0_1.out A4.out).mono ?_); rintro e w30 ⟨rfl, hb⟩; refine ⟨_, rfl, ?_⟩; have n_ := a5 (bo BK131 hb) (bo BK132 hb) (bo BK133 hb) (blk_below (g := gbx) (o := .cells #[.int .i64 0] 30 (0, 0)) (bx BK999.out) hb) (bl hb); clear BK131 BK132 BK133 BK999 HB; obtain ⟨BK131, BK132, BK133, BK999, HB⟩ := n_; clear hb; have ⟨_, _⟩ := nn NB132_133; have ⟨_, _⟩ := nn NB132_999; have ⟨_, _, _, _, _, _, _, _⟩ := cf4 BK132; have ⟨_, _, _, _⟩ := cf2 BK131) | ((with_reducible refine gate_callee (f := 51) rfl ?_); refine gl 31 Try.func51 #[.bool true, .int .i64 30] ?_; (with_reducible refine (proof_need.calls true 30  _ A10.out).mono ?_); rintro e w' ⟨rfl, ⟨nd, rfl⟩⟩; refine ⟨_, rfl, ?_⟩) | ((with_reducible refine gate_callee (f := 51) rfl ?_); refine gl 37 Try.func51 #[.bool true, .int .i64 120] ?_; (with_reducible refine (proof_need.calls true 120  _ A21.out).mono ?_); rintro e w' ⟨rfl, ⟨nd, rfl⟩⟩; refine ⟨_, rfl, ?_⟩) | ((with_reducible refine gate_callee (f := 52) rfl ?_); refine gl 41 Try.func52 #[.agg #[.int .i64 a0_0, .slice A0_1 l0_1.length c0_1], .slice A1_2 l1_2.length c1_2] ?_; (with_reducible refine (proof_carried.ok k a0_0 _ _ l0_1 _ _ l1_2 t136 _ (Kd.C_below HR0_1.out lb) HC0_1.out (Kd.C_below HR1_2.out lb) HC1_2.out A22.out).mono ?_); rintro e w35 ⟨v137, rfl, ho0, hb⟩; refine ⟨_, rfl, ?_⟩; have n_ := a6 (Kd.R_lower (Kd.R_newB ho0 (g := gb133) (o := .cells #[.int .i64 a2] 2 (0, 0)) (bx BK133.out)) (below_size lb)) (bo BK131 hb) (bo BK132 hb) (bo BK133 hb) (blk_below (g := gbx) (o := .cells #[.int .i64 0] 30 (0, 0)) (bx BK999.out) hb) (bl hb); clear BK131 BK132 BK133 BK999 HB; obtain ⟨HO138, BK131, BK132, BK133, BK999, HB⟩ := n_; clear hb; (try clear ho0); have ⟨_, _, _, _⟩ := cf2 BK131; have ⟨_, _, _, _, _, _, _, _⟩ := cf4 BK132) | ((with_reducible refine gate_callee (f := 53) rfl ?_); refine gl 45 Try.func53 #[.agg #[.int .i64 a0_0, .slice A0_1 l0_1.length c0_1], .slice A1_3 l1_3.length c1_3] ?_; (with_reducible refine (proof_across.ok k a0_0 _ _ l0_1 _ _ l1_3 t140 _ (Kd.C_below HR0_1.out lb) HC0_1.out (Kd.C_below HR1_3.out lb) HC1_3.out A24.out).mono ?_); rintro e w38 ⟨rfl, hb⟩; refine ⟨_, rfl, ?_⟩; have n_ := a6 (ro HO138 hb) (bo BK131 hb) (bo BK132 hb) (bo BK133 hb) (blk_below (g := gbx) (o := .cells #[.int .i64 0] 30 (0, 0)) (bx BK999.out) hb) (bl hb); clear HO138 BK131 BK132 BK133 BK999 HB; obtain ⟨HO138, BK131, BK132, BK133, BK999, HB⟩ := n_; clear hb; obtain ⟨Ao39, co39, eo39⟩ := Kd.R_slice HO138.out; subst eo39))
 go_loopg [48] k (fun kq v48 w' => ∃ (x48_1 : Int), v48 = .int .i64 x48_1 ∧ Aside0 (proof_Max_1.l0 kq t136 t140 t136 (t136.length : Int) x48_1 a1_0 a1_1 l1_2 l1_3 a2 = some (r1, r2)) ∧ Aside0 (kq ≤ k) ∧ Aside0 (Kd.R (Kd.int .i64) 2 w' w.heap.size (fun k_ => k_ ≠ gb133) (.slice Ao39 t136.length co39) t136) ∧ Aside0 (Kd.R (Kd.int .i64) 2 w' w.heap.size (fun k_ => k_ ≠ gb133) (.slice Ao39 t136.length co39) t136) ∧ Aside0 (w'.heap[gb131]? = some (.cells #[.int .i64 a0_0, (.slice A0_1 l0_1.length c0_1)] 24 (0, 0))) ∧ Aside0 (w'.heap[gb132]? = some (.cells #[.int .i64 a1_0, .int .i64 a1_1, (.slice A1_2 l1_2.length c1_2), (.slice A1_3 l1_3.length c1_3)] 28 (0, 0))) ∧ Aside0 (w'.heap[gb133]? = some (.cells #[.int .i64 a2] 2 (0, 0))) ∧ Aside0 (w'.heap[gbx]? = some (.cells #[.int .i64 0] 30 (0, 0))) ∧ Aside0 (Below w.heap.size w w'))
 case atStart => exact ⟨(0), sr, H', ⟨Nat.le_refl _⟩, ⟨by exact rx (Kd.R_mono HO138.out (fun _ hk => hk.2))⟩, ⟨by exact rx (Kd.R_mono HO138.out (fun _ hk => hk.2))⟩, xb BK131, xb BK132, xb BK133, xb BK999, ⟨lb⟩⟩
 clear H'; obtain ⟨x48_1, rfl, HA, HK1, HO_3, HO_46, BK131, BK132, BK133, BK999, HB⟩ := hrel
 cases gk with
 | zero => exact absurd HA.out (by simp [proof_Max_1.l0])
 | succ k1 => ?_
 have H := HA.out; clear HA
 simp only [proof_Max_1.l0] at H
 by_cases c40 : x48_1 < (t136.length : Int)
 ·
  rw [if_pos c40] at H; have c40b0 := decide_eq_true c40; clear c40; replace H := if2 H; obtain ⟨c41b0, c42b0, H⟩ := H
  by_cases c43 : (rd t136 x48_1) = 0
  ·
   rw [if_pos c43] at H; have c43b := be2 c43; clear c43; have A44 := ak (show proof_need.f true 221 = some () from rfl); have H' := ak H; clear H; obtain ⟨p141, q141, ad141, e141, hx141_0⟩ := wq (Kd.at_int (Kd.R_reads' HO_46.out).2.2 x48_1); cases e141
   go_wp2_with (first | ((with_reducible refine gate_callee (f := 51) rfl ?_); refine gl 67 Try.func51 #[.bool true, .int .i64 221] ?_; (with_reducible refine (proof_need.calls true 221  _ A44.out).mono ?_); rintro e w' ⟨rfl, ⟨nd, rfl⟩⟩; refine ⟨_, rfl, ?_⟩))
   go_roundg k1
   case measure => have := HK1.out; omega
   case rel => exact ⟨(wrap64 (x48_1 + 1)), sr, H', ⟨by have := HK1.out; omega⟩, ⟨rx HO_3.out⟩, ⟨rx HO_46.out⟩, xb BK131, xb BK132, xb BK133, xb BK999, ⟨lb⟩⟩
  rw [if_neg c43] at H; have c43b := bn2 c43
  by_cases c45 : x48_1 = a1_0
  ·
   rw [if_pos c45] at H; have c45b := be2 c45; clear c45; have A46 := ak (show proof_need.f true 221 = some () from rfl); have H' := ak H; clear H; obtain ⟨p141, q141, ad141, e141, hx141_0⟩ := wq (Kd.at_int (Kd.R_reads' HO_46.out).2.2 x48_1); cases e141; have ⟨_, _⟩ := nn NB132_131; have ⟨_, _⟩ := nn NB132_133; have ⟨_, _⟩ := nn NB132_999; have ⟨_, _, _, _, _, _, _, _⟩ := cf4 BK132
   go_wp2_with (first | ((with_reducible refine gate_callee (f := 51) rfl ?_); refine gl 67 Try.func51 #[.bool true, .int .i64 221] ?_; (with_reducible refine (proof_need.calls true 221  _ A46.out).mono ?_); rintro e w' ⟨rfl, ⟨nd, rfl⟩⟩; refine ⟨_, rfl, ?_⟩))
   go_roundg k1
   case measure => have := HK1.out; omega
   case rel => exact ⟨(wrap64 (x48_1 + 1)), sr, H', ⟨by have := HK1.out; omega⟩, ⟨rx HO_3.out⟩, ⟨rx HO_46.out⟩, xb BK131, xb BK132, xb BK133, xb BK999, ⟨lb⟩⟩
  rw [if_neg c45] at H; have c45b := bn2 c45
  by_cases c51 : x48_1 = a1_1
  rotate_left
  ·
   rw [if_neg c51] at H; have c51b := bn2 c51
   simp only [Option.some.injEq, Prod.mk.injEq] at H
   obtain ⟨rfl, rfl⟩ := H; obtain ⟨p141, q141, ad141, e141, hx141_0⟩ := wq (Kd.at_int (Kd.R_reads' HO_46.out).2.2 x48_1); cases e141; have ⟨_, _⟩ := nn NB132_131; have ⟨_, _⟩ := nn NB132_133; have ⟨_, _⟩ := nn NB132_999; have ⟨_, _, _, _, _, _, _, _⟩ := cf4 BK132
   go_wp2_with (first | ((with_reducible refine gate_callee (f := 51) rfl ?_); refine pl 67 Try.func51 #[.bool false, .int .i64 221] ?_; refine (proof_need.bad 221 _).mono ?_; rintro e w' ⟨rfl, rfl⟩; refine ⟨_, rfl, ?_⟩; (repeat (first | refine panic_then ?_ | refine panic_block ?_)); exact panic_body rfl (⟨Gave.no da rfl, (bx BK133.out), (bx BK999.out), lb⟩)))
  rw [if_pos c51] at H; have c51b := be2 c51; clear c51; have A52 := ak (show proof_need.f true 221 = some () from rfl); have H' := ak H; clear H; obtain ⟨p141, q141, ad141, e141, hx141_0⟩ := wq (Kd.at_int (Kd.R_reads' HO_46.out).2.2 x48_1); cases e141; have ⟨_, _⟩ := nn NB132_131; have ⟨_, _⟩ := nn NB132_133; have ⟨_, _⟩ := nn NB132_999; have ⟨_, _, _, _, _, _, _, _⟩ := cf4 BK132
  go_wp2_with (first | ((with_reducible refine gate_callee (f := 51) rfl ?_); refine gl 67 Try.func51 #[.bool true, .int .i64 221] ?_; (with_reducible refine (proof_need.calls true 221  _ A52.out).mono ?_); rintro e w' ⟨rfl, ⟨nd, rfl⟩⟩; refine ⟨_, rfl, ?_⟩))
  go_roundg k1
  case measure => have := HK1.out; omega
  case rel => exact ⟨(wrap64 (x48_1 + 1)), sr, H', ⟨by have := HK1.out; omega⟩, ⟨rx HO_3.out⟩, ⟨rx HO_46.out⟩, xb BK131, xb BK132, xb BK133, xb BK999, ⟨lb⟩⟩
 rw [if_neg c40] at H; have c40b0 := decide_eq_false c40; clear c40; replace H := if2 H; obtain ⟨c61b0, c62b0, H⟩ := H; obtain ⟨bq63, hbq63⟩ : ∃ b_ : Bool, b_ = (rdOf false l1_3 a1_0) := ⟨_, rfl⟩; replace H : (if bq63 = true then (if 0 ≤ a1_1 then (if a1_1 < (l1_3.length : Int) then (if rdOf false l1_3 a1_1 = true then (some (221, a2)) else (if a1_0 < (t136.length : Int) then (if (rd t136 a1_0) = t140 then (some (0, t140)) else (some (221, a2))) else (none))) else (none)) else (none)) else (some (221, a2))) = some (r1, r2) := by rw [← hbq63] at H; exact H
 have Nbq63 := ak hbq63; clear hbq63
 by_cases c64 : bq63 = true
 rotate_left
 ·
  replace c64 := Bool.eq_false_iff.mpr c64; subst c64
  have H1 : (some (221, a2)) = some (r1, r2) := by rw [if_neg (show ¬ (false = true) by decide)] at H; exact H
  clear H; have H := H1; clear H1
  simp only [Option.some.injEq, Prod.mk.injEq] at H
  obtain ⟨rfl, rfl⟩ := H; have ⟨_, _⟩ := nn NB132_131; have ⟨_, _⟩ := nn NB132_133; have ⟨_, _⟩ := nn NB132_999; have ⟨_, _, _, _, _, _, _, _⟩ := cf4 BK132; obtain ⟨p142, q142, ad142, e142, hx142_0⟩ := wq (Kd.at_bool HR1_3.out a1_0)
  (try rw [← Nbq63.out] at hx142_0)
  cases e142
  (try replace hx142_0 := hbc HB hx142_0)
  go_wp2_with (first | ((with_reducible refine gate_callee (f := 51) rfl ?_); refine pl 93 Try.func51 #[.bool false, .int .i64 221] ?_; refine (proof_need.bad 221 _).mono ?_; rintro e w' ⟨rfl, rfl⟩; refine ⟨_, rfl, ?_⟩; (repeat (first | refine panic_then ?_ | refine panic_block ?_)); exact panic_body rfl (⟨Gave.no da rfl, (bx BK133.out), (bx BK999.out), lb⟩)))
 subst c64
 replace H := ip H; replace H := if2 H; obtain ⟨c65b0, c66b0, H⟩ := H; obtain ⟨bq67, hbq67⟩ : ∃ b_ : Bool, b_ = (rdOf false l1_3 a1_1) := ⟨_, rfl⟩; replace H : (if bq67 = true then (some (221, a2)) else (if a1_0 < (t136.length : Int) then (if (rd t136 a1_0) = t140 then (some (0, t140)) else (some (221, a2))) else (none))) = some (r1, r2) := by rw [← hbq67] at H; exact H
 have Nbq67 := ak hbq67; clear hbq67
 by_cases c68 : bq67 = true
 ·
  subst c68
  replace H := ip H
  simp only [Option.some.injEq, Prod.mk.injEq] at H
  obtain ⟨rfl, rfl⟩ := H; have ⟨_, _⟩ := nn NB132_131; have ⟨_, _⟩ := nn NB132_133; have ⟨_, _⟩ := nn NB132_999; have ⟨_, _, _, _, _, _, _, _⟩ := cf4 BK132; obtain ⟨p142, q142, ad142, e142, hx142_0⟩ := wq (Kd.at_bool HR1_3.out a1_0)
  (try rw [← Nbq63.out] at hx142_0)
  (try rw [← Nbq67.out] at hx142_0)
  cases e142
  (try replace hx142_0 := hbc HB hx142_0); obtain ⟨p143, q143, ad143, e143, hx143_0⟩ := wq (Kd.at_bool HR1_3.out a1_1)
  (try rw [← Nbq63.out] at hx143_0)
  (try rw [← Nbq67.out] at hx143_0)
  obtain rfl : ad142 = ad143 := (by injection e143)
  (try replace hx143_0 := hbc HB hx143_0)
  go_wp2_with (first | ((with_reducible refine gate_callee (f := 51) rfl ?_); refine pl 93 Try.func51 #[.bool false, .int .i64 221] ?_; refine (proof_need.bad 221 _).mono ?_; rintro e w' ⟨rfl, rfl⟩; refine ⟨_, rfl, ?_⟩; (repeat (first | refine panic_then ?_ | refine panic_block ?_)); exact panic_body rfl (⟨Gave.no da rfl, (bx BK133.out), (bx BK999.out), lb⟩)))
 replace c68 := Bool.eq_false_iff.mpr c68; subst c68
 have H1 : (if a1_0 < (t136.length : Int) then (if (rd t136 a1_0) = t140 then (some (0, t140)) else (some (221, a2))) else (none)) = some (r1, r2) := by rw [if_neg (show ¬ (false = true) by decide)] at H; exact H
 clear H; have H := H1; clear H1; replace H := ifd H; obtain ⟨c73b0, H⟩ := H
 by_cases c74 : (rd t136 a1_0) = t140
 rotate_left
 ·
  rw [if_neg c74] at H; have c74b := bn2 c74
  simp only [Option.some.injEq, Prod.mk.injEq] at H
  obtain ⟨rfl, rfl⟩ := H; have ⟨_, _⟩ := nn NB132_131; have ⟨_, _⟩ := nn NB132_133; have ⟨_, _⟩ := nn NB132_999; have ⟨_, _, _, _, _, _, _, _⟩ := cf4 BK132; obtain ⟨p142, q142, ad142, e142, hx142_0⟩ := wq (Kd.at_bool HR1_3.out a1_0)
  (try rw [← Nbq63.out] at hx142_0)
  (try rw [← Nbq67.out] at hx142_0)
  cases e142
  (try replace hx142_0 := hbc HB hx142_0); obtain ⟨p143, q143, ad143, e143, hx143_0⟩ := wq (Kd.at_bool HR1_3.out a1_1)
  (try rw [← Nbq63.out] at hx143_0)
  (try rw [← Nbq67.out] at hx143_0)
  obtain rfl : ad142 = ad143 := (by injection e143)
  (try replace hx143_0 := hbc HB hx143_0); obtain ⟨p144, q144, ad144, e144, hx144_0⟩ := wq (Kd.at_int (Kd.R_reads' HO_3.out).2.2 a1_0); cases e144
  go_wp2_with (first | ((with_reducible refine gate_callee (f := 51) rfl ?_); refine pl 93 Try.func51 #[.bool false, .int .i64 221] ?_; refine (proof_need.bad 221 _).mono ?_; rintro e w' ⟨rfl, rfl⟩; refine ⟨_, rfl, ?_⟩; (repeat (first | refine panic_then ?_ | refine panic_block ?_)); exact panic_body rfl (⟨Gave.no da rfl, (bx BK133.out), (bx BK999.out), lb⟩)))
 rw [if_pos c74] at H; have c74b := be2 c74; clear c74; have A75 := ak (show proof_need.f true 221 = some () from rfl)
 simp only [Option.some.injEq, Prod.mk.injEq] at H
 obtain ⟨rfl, rfl⟩ := H; have ⟨_, _⟩ := nn NB132_131; have ⟨_, _⟩ := nn NB132_133; have ⟨_, _⟩ := nn NB132_999; have ⟨_, _, _, _, _, _, _, _⟩ := cf4 BK132; obtain ⟨p142, q142, ad142, e142, hx142_0⟩ := wq (Kd.at_bool HR1_3.out a1_0)
 (try rw [← Nbq63.out] at hx142_0)
 (try rw [← Nbq67.out] at hx142_0)
 cases e142
 (try replace hx142_0 := hbc HB hx142_0); obtain ⟨p143, q143, ad143, e143, hx143_0⟩ := wq (Kd.at_bool HR1_3.out a1_1)
 (try rw [← Nbq63.out] at hx143_0)
 (try rw [← Nbq67.out] at hx143_0)
 obtain rfl : ad142 = ad143 := (by injection e143)
 (try replace hx143_0 := hbc HB hx143_0); obtain ⟨p144, q144, ad144, e144, hx144_0⟩ := wq (Kd.at_int (Kd.R_reads' HO_3.out).2.2 a1_0); cases e144
 go_wp2_with (first | ((with_reducible refine gate_callee (f := 51) rfl ?_); refine gl 93 Try.func51 #[.bool true, .int .i64 221] ?_; (with_reducible refine (proof_need.calls true 221  _ A75.out).mono ?_); rintro e w' ⟨rfl, ⟨nd, rfl⟩⟩; refine ⟨_, rfl, ?_⟩; (try (rw [drewN_self wr]; generalize hq_ : World.drewN wr _ = wr; have n0_ : Aside0 (Kd.R (Kd.int .i64) 2 wr w.heap.size (fun k_ => k_ ≠ gb133) (.slice (some ad144) t136.length co39) t136) := ⟨by rw [← hq_]; exact (rx HO_3.out)⟩; have n1_ : Aside0 (Kd.R (Kd.int .i64) 2 wr w.heap.size (fun k_ => k_ ≠ gb133) (.slice (some ad144) t136.length co39) t136) := ⟨by rw [← hq_]; exact (rx HO_46.out)⟩; have n2_ : Aside0 (wr.heap[gb131]? = some (.cells #[.int .i64 a0_0, .slice A0_1 l0_1.length c0_1] 24 (0, 0))) := ⟨by rw [← hq_]; exact (bx BK131.out)⟩; have n3_ : Aside0 (wr.heap[gb132]? = some (.cells #[.int .i64 a1_0, .int .i64 a1_1, .slice A1_2 l1_2.length c1_2, .slice (some ad142) l1_3.length c1_3] 28 (0, 0))) := ⟨by rw [← hq_]; exact (bx BK132.out)⟩; have n4_ : Aside0 (wr.heap[gb133]? = some (.cells #[.int .i64 a2] 2 (0, 0))) := ⟨by rw [← hq_]; exact (bx BK133.out)⟩; have n5_ : Aside0 (wr.heap[gbx]? = some (.cells #[.int .i64 0] 30 (0, 0))) := ⟨by rw [← hq_]; exact (bx BK999.out)⟩; have n6_ : Aside0 (Below w.heap.size w wr) := ⟨by rw [← hq_]; exact lb⟩; clear HO_3 HO_46 BK131 BK132 BK133 BK999 HB hq_; have HO_3 := n0_; have HO_46 := n1_; have BK131 := n2_; have BK132 := n3_; have BK133 := n4_; have BK999 := n5_; have HB := n6_; clear n0_ n1_ n2_ n3_ n4_ n5_ n6_)); have ⟨_, _⟩ := nn NB133_131; have ⟨_, _⟩ := nn NB133_999; have ⟨_, _⟩ := cf1 BK133))
 first | go_end0 | ((try simp only [Exit.inBlock, Exit.then]); refine bodyPost_ret (results_none rfl _ _ _) rfl ?_)
 exact ⟨Gave.ok (by first | rfl | (simp <;> rfl)), (by (with_reducible repeat (first | refine blk_drewN ?_ _ | refine blk_drew ?_ | refine blk_alloc ?_ _)); refine blk_put (cs := #[.int .i64 a2]) ?_ 0 _ rfl; exact bx BK133.out), (by (with_reducible repeat (first | refine blk_drewN ?_ _ | refine blk_drew ?_ | refine blk_alloc ?_ _)); refine blk_far ?_ NB999_133.out _; exact bx BK999.out), lb⟩
end Go.Proofs.Ytkdoihcjhccliaa.Q
