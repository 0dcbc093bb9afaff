import Derived.Test.YtkdoihcjhccliaaQ0
import Derived.Test.YtkdoihcjhccliaaQ3
import Derived.Test.YtkdoihcjhccliaaQ5
import Derived.Test.YtkdoihcjhccliaaQ7
import Derived.Test.YtkdoihcjhccliaaQ9
namespace Go.Proofs.Ytkdoihcjhccliaa.Q
open Go.RowKit Go.Proofs.YtkdoihcjhccliaaW.PrintWords Go.Proofs.YtkdoihcjhccliaaW.PrintLast Go.Proofs.YtkdoihcjhccliaaW.PrintMore
attribute [local go_sem] max2_int min2_int max_two min_two max_three min_three max_four min_four   -- for this text's walks alone
set_option linter.unusedVariables false
set_option linter.unusedSimpArgs false

/-! ### proof_NoPlan_1: function 65 -/
def proof_NoPlan_1.l0 : Nat → Int → List Bool → Int → Int → List Int → Option (Int)
  | 0, _, _, _, _, _ => none
  | k + 1, x3, x14, x15, x16, x389000 => if x16 < x15 then (if 0 ≤ x16 then (if x16 < (x14.length : Int) then (if rdOf false x14 x16 = true then (if x16 < (x389000.length : Int) then (proof_NoPlan_1.l0 k (wrap64 (x3 - (rd x389000 x16))) x14 x15 (wrap64 (x16 + 1)) x389000) else (none)) else (proof_NoPlan_1.l0 k x3 x14 x15 (wrap64 (x16 + 1)) x389000)) else (none)) else (none)) else (if x3 < 0 then (some 0) else (some 221))
def proof_NoPlan_1.f (k : Nat) (a0_0 : Int) (l0_1 : List (S98)) (l1 : List Int) (l2 : List Bool) : Option (Int) := (proof_right.f k a0_0 l0_1).bind fun t390 => (if t390 = 0 then ((proof_supplied.f k a0_0 l0_1 l1).bind fun t391 => (if t391 = 0 then ((proof_across.f k a0_0 l0_1 l2).bind fun bt392 => (if bt392.1 = 0 then (proof_NoPlan_1.l0 k bt392.2 l2 (l2.length : Int) 0 l1) else (some bt392.1))) else (some t391))) else (some t390))
set_option maxHeartbeats 8000000 in
set_option maxRecDepth 100000 in
theorem proof_NoPlan_1.calls (k : Nat) (a0_0 : Int) (A0_1 : Option Addr) (c0_1 : Nat) (l0_1 : List (S98)) (A1 : Option Addr) (c1 : Nat) (l1 : List Int) (A2 : Option Addr) (c2 : Nat) (l2 : List Bool) (r : Int) (w wc0 : World) (gb387 gb388 gb389 gbx : Nat) (hr0_1 : Kd.C k98 w A0_1 l0_1.length l0_1) (hc0_1 : l0_1.length ≤ c0_1) (hr1 : Kd.C (Kd.int .i64) w A1 l1.length l1) (hc1 : l1.length ≤ c1) (hr2 : Kd.C Kd.bool w A2 l2.length l2) (hc2 : l2.length ≤ c2) (hB : Below w.heap.size w wc0) (hb0_ : wc0.heap[gb387]? = some (.cells #[.int .i64 a0_0, .slice A0_1 l0_1.length c0_1] 24 (0, 0))) (hg0_ : w.heap.size ≤ gb387) (hb1_ : wc0.heap[gb388]? = some (.cells #[.slice A1 l1.length c1] 25 (0, 0))) (hg1_ : w.heap.size ≤ gb388) (hb2_ : wc0.heap[gb389]? = some (.cells #[.slice A2 l2.length c2] 26 (0, 0))) (hg2_ : w.heap.size ≤ gb389) (hb3_ : wc0.heap[gbx]? = some (.cells #[.int .i64 0] 30 (0, 0))) (hg3_ : w.heap.size ≤ gbx) (hn0_1_ : gb387 ≠ gb388) (hn0_2_ : gb387 ≠ gb389) (hn0_3_ : gb387 ≠ gbx) (hn1_2_ : gb388 ≠ gb389) (hn1_3_ : gb388 ≠ gbx) (hn2_3_ : gb389 ≠ gbx) (h : proof_NoPlan_1.f k a0_0 l0_1 l1 l2 = some r) :
    Calls Try.prog 65 #[.pointer (some ⟨gb387, 0, none⟩), .pointer (some ⟨gb388, 0, none⟩), .pointer (some ⟨gb389, 0, none⟩)] wc0 fun e w' => Gave r (e = .returned (.tuple #[])) (e = gave r) ∧ w'.heap[gbx]? = some (.cells #[.int .i64 0] 30 (0, 0)) ∧ Below w.heap.size w w' := by
 have hu24 := Try.underlying24; have HR0_1 := ak hr0_1; have HC0_1 := ak hc0_1; clear hr0_1 hc0_1; have HR1 := ak hr1; have HC1 := ak hc1; clear hr1 hc1; have HR2 := ak hr2; have HC2 := ak hc2; clear hr2 hc2; have HB := ak hB; clear hB; have BK387 := ak hb0_; have GW387 := ak hg0_; have GE387 := ak hg0_; have BK388 := ak hb1_; have GW388 := ak hg1_; have GE388 := ak hg1_; have BK389 := ak hb2_; have GW389 := ak hg2_; have GE389 := ak hg2_; have BK999 := ak hb3_; have GW999 := ak hg3_; have GE999 := ak hg3_; have NB387_388 := ak hn0_1_; have NB388_387 := ak hn0_1_.symm; have NB387_389 := ak hn0_2_; have NB389_387 := ak hn0_2_.symm; have NB387_999 := ak hn0_3_; have NB999_387 := ak hn0_3_.symm; have NB388_389 := ak hn1_2_; have NB389_388 := ak hn1_2_.symm; have NB388_999 := ak hn1_3_; have NB999_388 := ak hn1_3_.symm; have NB389_999 := ak hn2_3_; have NB999_389 := ak hn2_3_.symm; clear hb0_ hg0_ hb1_ hg1_ hb2_ hg2_ hb3_ hg3_ hn0_1_ hn0_2_ hn0_3_ hn1_2_ hn1_3_ hn2_3_; have H : ((proof_right.f k a0_0 l0_1).bind fun t390 => (if t390 = 0 then ((proof_supplied.f k a0_0 l0_1 l1).bind fun t391 => (if t391 = 0 then ((proof_across.f k a0_0 l0_1 l2).bind fun bt392 => (if bt392.1 = 0 then (proof_NoPlan_1.l0 k bt392.2 l2 (l2.length : Int) 0 l1) else (some bt392.1))) else (some t391))) else (some t390))) = some r := h; clear h; replace H := Option.bind_eq_some_iff.mp H; obtain ⟨t390, A40, H⟩ := H
 replace H : (if t390 = 0 then ((proof_supplied.f k a0_0 l0_1 l1).bind fun t391 => (if t391 = 0 then ((proof_across.f k a0_0 l0_1 l2).bind fun bt392 => (if bt392.1 = 0 then (proof_NoPlan_1.l0 k bt392.2 l2 (l2.length : Int) 0 l1) else (some bt392.1))) else (some t391))) else (some t390)) = some r := H
 by_cases c5 : t390 = 0
 rotate_left
 ·
  rw [if_neg c5] at H; have A4 := ak A40; clear A40; obtain rfl := Option.some.inj H; have ⟨_, _⟩ := nn NB387_388; have ⟨_, _⟩ := nn NB387_389; have ⟨_, _⟩ := nn NB387_999; have ⟨_, _, _, _⟩ := cf2 BK387
  go_enter Try.func65, Try.ntmps65
  go_wp2_with (first | ((with_reducible refine gate_callee (f := 50) rfl ?_); refine pl 7 Try.func50 #[.agg #[.int .i64 a0_0, .slice A0_1 l0_1.length c0_1]] ?_; (with_reducible refine (proof_right.bad k a0_0 _ _ l0_1 t390 _ (Kd.C_below HR0_1.out lb) HC0_1.out A4.out c5).mono ?_); rintro e w65 ⟨rfl, hb⟩; refine ⟨_, rfl, ?_⟩; (repeat (first | refine panic_then ?_ | refine panic_block ?_)); exact panic_body rfl (⟨Gave.no c5 rfl, blk_below (bx BK999.out) hb, below_step lb hb⟩)))

 subst c5
 replace H := ip H; have A4 := ak A40; clear A40; replace H := Option.bind_eq_some_iff.mp H; obtain ⟨t391, A60, H⟩ := H
 by_cases c7 : t391 = 0
 rotate_left
 ·
  rw [if_neg c7] at H; have A6 := ak A60; clear A60; obtain rfl := Option.some.inj H; have ⟨_, _⟩ := nn NB387_388; have ⟨_, _⟩ := nn NB387_389; have ⟨_, _⟩ := nn NB387_999; have ⟨_, _, _, _⟩ := cf2 BK387
  go_enter Try.func65, Try.ntmps65
  go_wp2_with (first | ((with_reducible refine gate_callee (f := 50) rfl ?_); refine gl 7 Try.func50 #[.agg #[.int .i64 a0_0, .slice A0_1 l0_1.length c0_1]] ?_; (with_reducible refine (proof_right.ok k a0_0 _ _ l0_1  _ (Kd.C_below HR0_1.out lb) HC0_1.out A4.out).mono ?_); rintro e w55 ⟨rfl, hb⟩; refine ⟨_, rfl, ?_⟩; have n_ := a5 (bo BK387 hb) (bo BK388 hb) (bo BK389 hb) (blk_below (g := gbx) (o := .cells #[.int .i64 0] 30 (0, 0)) (bx BK999.out) hb) (bl hb); clear BK387 BK388 BK389 BK999 HB; obtain ⟨BK387, BK388, BK389, BK999, HB⟩ := n_; clear hb; have ⟨_, _, _, _⟩ := cf2 BK387; have ⟨_, _⟩ := nn NB388_389; have ⟨_, _⟩ := nn NB388_999; have ⟨_, _⟩ := cf1 BK388) | ((with_reducible refine gate_callee (f := 61) rfl ?_); refine pl 10 Try.func61 #[.agg #[.int .i64 a0_0, .slice A0_1 l0_1.length c0_1], .slice A1 l1.length c1] ?_; (with_reducible refine (proof_supplied.bad k a0_0 _ _ l0_1 _ _ l1 t391 _ (Kd.C_below HR0_1.out lb) HC0_1.out (Kd.C_below HR1.out lb) HC1.out A6.out c7).mono ?_); rintro e w60 ⟨rfl, hb⟩; refine ⟨_, rfl, ?_⟩; (repeat (first | refine panic_then ?_ | refine panic_block ?_)); exact panic_body rfl (⟨Gave.no c7 rfl, blk_below (bx BK999.out) hb, below_step lb hb⟩)))
 subst c7
 replace H := ip H; have A6 := ak A60; clear A60; replace H := Option.bind_eq_some_iff.mp H; obtain ⟨⟨t392, t393⟩, A80, H⟩ := H; dsimp only at H
 by_cases c9 : t392 = 0
 rotate_left
 ·
  rw [if_neg c9] at H; have A8 := ak A80; clear A80; obtain rfl := Option.some.inj H; have ⟨_, _⟩ := nn NB387_388; have ⟨_, _⟩ := nn NB387_389; have ⟨_, _⟩ := nn NB387_999; have ⟨_, _, _, _⟩ := cf2 BK387
  go_enter Try.func65, Try.ntmps65
  go_wp2_with (first | ((with_reducible refine gate_callee (f := 50) rfl ?_); refine gl 7 Try.func50 #[.agg #[.int .i64 a0_0, .slice A0_1 l0_1.length c0_1]] ?_; (with_reducible refine (proof_right.ok k a0_0 _ _ l0_1  _ (Kd.C_below HR0_1.out lb) HC0_1.out A4.out).mono ?_); rintro e w41 ⟨rfl, hb⟩; refine ⟨_, rfl, ?_⟩; have n_ := a5 (bo BK387 hb) (bo BK388 hb) (bo BK389 hb) (blk_below (g := gbx) (o := .cells #[.int .i64 0] 30 (0, 0)) (bx BK999.out) hb) (bl hb); clear BK387 BK388 BK389 BK999 HB; obtain ⟨BK387, BK388, BK389, BK999, HB⟩ := n_; clear hb; have ⟨_, _, _, _⟩ := cf2 BK387; have ⟨_, _⟩ := nn NB388_389; have ⟨_, _⟩ := nn NB388_999; have ⟨_, _⟩ := cf1 BK388) | ((with_reducible refine gate_callee (f := 61) rfl ?_); refine gl 10 Try.func61 #[.agg #[.int .i64 a0_0, .slice A0_1 l0_1.length c0_1], .slice A1 l1.length c1] ?_; (with_reducible refine (proof_supplied.ok k a0_0 _ _ l0_1 _ _ l1  _ (Kd.C_below HR0_1.out lb) HC0_1.out (Kd.C_below HR1.out lb) HC1.out A6.out).mono ?_); rintro e w46 ⟨rfl, hb⟩; refine ⟨_, rfl, ?_⟩; have n_ := a5 (bo BK387 hb) (bo BK388 hb) (bo BK389 hb) (blk_below (g := gbx) (o := .cells #[.int .i64 0] 30 (0, 0)) (bx BK999.out) hb) (bl hb); clear BK387 BK388 BK389 BK999 HB; obtain ⟨BK387, BK388, BK389, BK999, HB⟩ := n_; clear hb; have ⟨_, _, _, _⟩ := cf2 BK387; have ⟨_, _⟩ := nn NB389_999; have ⟨_, _⟩ := cf1 BK389) | ((with_reducible refine gate_callee (f := 53) rfl ?_); refine pl 13 Try.func53 #[.agg #[.int .i64 a0_0, .slice A0_1 l0_1.length c0_1], .slice A2 l2.length c2] ?_; (with_reducible refine (proof_across.bad k a0_0 _ _ l0_1 _ _ l2 t392 t393 _ (Kd.C_below HR0_1.out lb) HC0_1.out (Kd.C_below HR2.out lb) HC2.out A8.out c9).mono ?_); rintro e w50 ⟨rfl, hb⟩; refine ⟨_, rfl, ?_⟩; (repeat (first | refine panic_then ?_ | refine panic_block ?_)); exact panic_body rfl (⟨Gave.no c9 rfl, blk_below (bx BK999.out) hb, below_step lb hb⟩)))
 subst c9
 replace H := ip H; have A8 := ak A80; clear A80; have H' := ak H; clear H; have ⟨_, _⟩ := nn NB387_388; have ⟨_, _⟩ := nn NB387_389; have ⟨_, _⟩ := nn NB387_999; have ⟨_, _, _, _⟩ := cf2 BK387
 go_enter Try.func65, Try.ntmps65
 go_wp2_with (first | ((with_reducible refine gate_callee (f := 50) rfl ?_); refine gl 7 Try.func50 #[.agg #[.int .i64 a0_0, .slice A0_1 l0_1.length c0_1]] ?_; (with_reducible refine (proof_right.ok k a0_0 _ _ l0_1  _ (Kd.C_below HR0_1.out lb) HC0_1.out A4.out).mono ?_); rintro e w14 ⟨rfl, hb⟩; refine ⟨_, rfl, ?_⟩; have n_ := a5 (bo BK387 hb) (bo BK388 hb) (bo BK389 hb) (blk_below (g := gbx) (o := .cells #[.int .i64 0] 30 (0, 0)) (bx BK999.out) hb) (bl hb); clear BK387 BK388 BK389 BK999 HB; obtain ⟨BK387, BK388, BK389, BK999, HB⟩ := n_; clear hb; have ⟨_, _, _, _⟩ := cf2 BK387; have ⟨_, _⟩ := nn NB388_389; have ⟨_, _⟩ := nn NB388_999; have ⟨_, _⟩ := cf1 BK388) | ((with_reducible refine gate_callee (f := 61) rfl ?_); refine gl 10 Try.func61 #[.agg #[.int .i64 a0_0, .slice A0_1 l0_1.length c0_1], .slice A1 l1.length c1] ?_; (with_reducible refine (proof_supplied.ok k a0_0 _ _ l0_1 _ _ l1  _ (Kd.C_below HR0_1.out lb) HC0_1.out (Kd.C_below HR1.out lb) HC1.out A6.out).mono ?_); rintro e w19 ⟨rfl, hb⟩; refine ⟨_, rfl, ?_⟩; have n_ := a5 (bo BK387 hb) (bo BK388 hb) (bo BK389 hb) (blk_below (g := gbx) (o := .cells #[.int .i64 0] 30 (0, 0)) (bx BK999.out) hb) (bl hb); clear BK387 BK388 BK389 BK999 HB; obtain ⟨BK387, BK388, BK389, BK999, HB⟩ := n_; clear hb; have ⟨_, _, _, _⟩ := cf2 BK387; have ⟨_, _⟩ := nn NB389_999; have ⟨_, _⟩ := cf1 BK389) | ((with_reducible refine gate_callee (f := 53) rfl ?_); refine gl 13 Try.func53 #[.agg #[.int .i64 a0_0, .slice A0_1 l0_1.length c0_1], .slice A2 l2.length c2] ?_; (with_reducible refine (proof_across.ok k a0_0 _ _ l0_1 _ _ l2 t393 _ (Kd.C_below HR0_1.out lb) HC0_1.out (Kd.C_below HR2.out lb) HC2.out A8.out).mono ?_); rintro e w23 ⟨rfl, hb⟩; refine ⟨_, rfl, ?_⟩; have n_ := a5 (bo BK387 hb) (bo BK388 hb) (bo BK389 hb) (blk_below (g := gbx) (o := .cells #[.int .i64 0] 30 (0, 0)) (bx BK999.out) hb) (bl hb); clear BK387 BK388 BK389 BK999 HB; obtain ⟨BK387, BK388, BK389, BK999, HB⟩ := n_; clear hb; have ⟨_, _⟩ := cf1 BK389))
 go_loopg [3, 16] k (fun kq v3 v16 w' => ∃ (x3_1 : Int) (x16_1 : Int), v3 = .int .i64 x3_1 ∧ v16 = .int .i64 x16_1 ∧ Aside0 (proof_NoPlan_1.l0 kq x3_1 l2 (l2.length : Int) x16_1 l1 = some r) ∧ Aside0 (kq ≤ k) ∧ Aside0 (w'.heap[gb387]? = some (.cells #[.int .i64 a0_0, (.slice A0_1 l0_1.length c0_1)] 24 (0, 0))) ∧ Aside0 (w'.heap[gb388]? = some (.cells #[(.slice A1 l1.length c1)] 25 (0, 0))) ∧ Aside0 (w'.heap[gb389]? = some (.cells #[(.slice A2 l2.length c2)] 26 (0, 0))) ∧ Aside0 (w'.heap[gbx]? = some (.cells #[.int .i64 0] 30 (0, 0))) ∧ Aside0 (Below w.heap.size w w'))
 case atStart => exact ⟨(t393), (0), sr, sr, H', ⟨Nat.le_refl _⟩, xb BK387, xb BK388, xb BK389, xb BK999, ⟨lb⟩⟩
 clear H'; obtain ⟨x3_1, x16_1, rfl, rfl, HA, HK1, BK387, BK388, BK389, BK999, HB⟩ := hrel
 cases gk with
 | zero => exact absurd HA.out (by simp [proof_NoPlan_1.l0])
 | succ k1 => ?_
 have H := HA.out; clear HA
 simp only [proof_NoPlan_1.l0] at H
 by_cases c25 : x16_1 < (l2.length : Int)
 rotate_left
 ·
  rw [if_neg c25] at H; have c25b0 := decide_eq_false c25; clear c25
  by_cases c35 : x3_1 < 0
  rotate_left
  ·
   rw [if_neg c35] at H; have c35b0 := decide_eq_false c35; clear c35; obtain rfl := Option.some.inj H
   go_wp2_with (first | ((with_reducible refine gate_callee (f := 51) rfl ?_); refine pl 31 Try.func51 #[.bool false, .int .i64 221] ?_; refine (proof_need.bad 221 _).mono ?_; rintro e w' ⟨rfl, rfl⟩; refine ⟨_, rfl, ?_⟩; (repeat (first | refine panic_then ?_ | refine panic_block ?_)); exact panic_body rfl (⟨Gave.no da rfl, (bx BK999.out), lb⟩)))
  rw [if_pos c35] at H; have c35b0 := decide_eq_true c35; clear c35; have A36 := ak (show proof_need.f true 221 = some () from rfl); obtain rfl := Option.some.inj H
  go_wp2_with (first | ((with_reducible refine gate_callee (f := 51) rfl ?_); refine gl 31 Try.func51 #[.bool true, .int .i64 221] ?_; (with_reducible refine (proof_need.calls true 221  _ A36.out).mono ?_); rintro e w' ⟨rfl, ⟨nd, rfl⟩⟩; refine ⟨_, rfl, ?_⟩))
  first | go_end0 | ((try simp only [Exit.inBlock, Exit.then]); refine bodyPost_ret (results_none rfl _ _ _) rfl ?_)
  exact ⟨Gave.ok (by first | rfl | (simp <;> rfl)), (bx BK999.out), lb⟩
 rw [if_pos c25] at H; have c25b0 := decide_eq_true c25; clear c25; replace H := if2 H; obtain ⟨c26b0, c27b0, H⟩ := H; obtain ⟨bq28, hbq28⟩ : ∃ b_ : Bool, b_ = (rdOf false l2 x16_1) := ⟨_, rfl⟩; replace H : (if bq28 = true then (if x16_1 < (l1.length : Int) then (proof_NoPlan_1.l0 k1 (wrap64 (x3_1 - (rd l1 x16_1))) l2 (l2.length : Int) (wrap64 (x16_1 + 1)) l1) else (none)) else (proof_NoPlan_1.l0 k1 x3_1 l2 (l2.length : Int) (wrap64 (x16_1 + 1)) l1)) = some r := by rw [← hbq28] at H; exact H
 have Nbq28 := ak hbq28; clear hbq28
 by_cases c29 : bq28 = true
 rotate_left
 ·
  replace c29 := Bool.eq_false_iff.mpr c29; subst c29
  have H1 : (proof_NoPlan_1.l0 k1 x3_1 l2 (l2.length : Int) (wrap64 (x16_1 + 1)) l1) = some r := by rw [if_neg (show ¬ (false = true) by decide)] at H; exact H
  clear H; have H := H1; clear H1; have H' := ak H; clear H; obtain ⟨p394, q394, ad394, e394, hx394_0⟩ := wq (Kd.at_bool HR2.out x16_1)
  (try rw [← Nbq28.out] at hx394_0)
  cases e394
  (try replace hx394_0 := hbc HB hx394_0)
  go_wp2
  go_roundg k1
  case measure => have := HK1.out; omega
  case rel => exact ⟨(x3_1), (wrap64 (x16_1 + 1)), sr, sr, H', ⟨by have := HK1.out; omega⟩, xb BK387, xb BK388, xb BK389, xb BK999, ⟨lb⟩⟩
 subst c29
 replace H := ip H; replace H := ifd H; obtain ⟨c30b0, H⟩ := H; have H' := ak H; clear H; obtain ⟨p394, q394, ad394, e394, hx394_0⟩ := wq (Kd.at_bool HR2.out x16_1)
 (try rw [← Nbq28.out] at hx394_0)
 cases e394
 (try replace hx394_0 := hbc HB hx394_0); have ⟨_, _⟩ := nn NB388_387; have ⟨_, _⟩ := nn NB388_389; have ⟨_, _⟩ := nn NB388_999; have ⟨_, _⟩ := cf1 BK388; obtain ⟨p395, q395, ad395, e395, hx395_0⟩ := wq (Kd.at_int HR1.out x16_1); cases e395
 (try replace hx395_0 := hbc HB hx395_0)
 go_wp2
 go_roundg k1
 case measure => have := HK1.out; omega
 case rel => exact ⟨(wrap64 (x3_1 - (rd l1 x16_1))), (wrap64 (x16_1 + 1)), sr, sr, H', ⟨by have := HK1.out; omega⟩, xb BK387, xb BK388, xb BK389, xb BK999, ⟨lb⟩⟩
/-! ### GIVEN: proof_NoPlan: function 24 -/
def proof_NoPlan.f (k : Nat) (a0_0 : Int) (l0_1 : List S98) (l1 : List Int) (l2 : List Bool) : Option (Int) := proof_NoPlan_1.f k a0_0 l0_1 l1 l2
theorem proof_NoPlan.look (k : Nat) (a0_0 : Int) (A0_1 : Option Addr) (c0_1 : Nat) (l0_1 : List S98) (A1 : Option Addr) (c1 : Nat) (l1 : List Int) (A2 : Option Addr) (c2 : Nat) (l2 : List Bool) (c : Int)  (w W : World) (g0 g1 g2 : Nat) (hr0_1 : Kd.C k98 w A0_1 l0_1.length l0_1) (hc0_1 : l0_1.length ≤ c0_1) (hr1 : Kd.C (Kd.int .i64) w A1 l1.length l1) (hc1 : l1.length ≤ c1) (hr2 : Kd.C Kd.bool w A2 l2.length l2) (hc2 : l2.length ≤ c2) (hB : Below w.heap.size w W) (b0 : W.heap[g0]? = some (.cells #[.int .i64 a0_0, .slice A0_1 l0_1.length c0_1] 24 (0, 0))) (e0 : w.heap.size ≤ g0) (b1 : W.heap[g1]? = some (.cells #[.slice A1 l1.length c1] 25 (0, 0))) (e1 : w.heap.size ≤ g1) (b2 : W.heap[g2]? = some (.cells #[.slice A2 l2.length c2] 26 (0, 0))) (e2 : w.heap.size ≤ g2) (n0_1 : g0 ≠ g1) (n0_2 : g0 ≠ g2) (n1_2 : g1 ≠ g2) (H : proof_NoPlan_1.f k a0_0 l0_1 l1 l2  = some c) {R : Ending → World → Prop}
    (hR : ∀ w4, Below w.heap.size w w4 → R (.returned (.int .i64 c)) w4) : Calls Try.prog 48 #[.func (.func 65) #[] #[.pointer (some ⟨g0, 0, none⟩), .pointer (some ⟨g1, 0, none⟩), .pointer (some ⟨g2, 0, none⟩)]] W R := by
  refine proof_look.any (G := fun W4 => Below w.heap.size w W4) c Try.func65 (by kernel_rfl) rfl ((proof_NoPlan_1.calls k a0_0 A0_1 c0_1 l0_1 A1 c1 l1 A2 c2 l2  c  w (W.alloc (.cells #[.int .i64 0] 30)) g0 g1 g2 W.heap.size hr0_1 hc0_1 hr1 hc1 hr2 hc2 (below_alloc hB _) (blk_alloc b0 _) e0 (blk_alloc b1 _) e1 (blk_alloc b2 _) e2 (blk_new W _) hB.size n0_1 n0_2 (Nat.ne_of_lt (blk_lt b0)) n1_2 (Nat.ne_of_lt (blk_lt b1)) (Nat.ne_of_lt (blk_lt b2)) H).mono fun e W4 h_ => ?_) (fun w' w'' h_ k_ => ?_)
  · obtain ⟨x0, x2, x3⟩ := h_; exact ⟨x0, x2, x3⟩
  · have x3 := h_; exact hR w'' (x3.trans (k_.mono hB.size))
set_option maxHeartbeats 2000000 in
set_option maxRecDepth 100000 in
theorem proof_NoPlan.calls (k : Nat) (a0_0 : Int) (A0_1 : Option Addr) (c0_1 : Nat) (l0_1 : List S98) (A1 : Option Addr) (c1 : Nat) (l1 : List Int) (A2 : Option Addr) (c2 : Nat) (l2 : List Bool) (r : Int) (w : World) (hr0_1 : Kd.C k98 w A0_1 l0_1.length l0_1) (hc0_1 : l0_1.length ≤ c0_1) (hr1 : Kd.C (Kd.int .i64) w A1 l1.length l1) (hc1 : l1.length ≤ c1) (hr2 : Kd.C Kd.bool w A2 l2.length l2) (hc2 : l2.length ≤ c2) (h : proof_NoPlan.f k a0_0 l0_1 l1 l2 = some r) :
    Calls Try.prog 24 #[.agg #[.int .i64 a0_0, .slice A0_1 l0_1.length c0_1], .slice A1 l1.length c1, .slice A2 l2.length c2] w fun e w' => e = .returned (.int .i64 r) ∧ Below w.heap.size w w' := by
  have H : proof_NoPlan_1.f k a0_0 l0_1 l1 l2 = some r := h; have A_ := Aside0.mk H; clear h H; have HR0_1 := Aside0.mk hr0_1; have HC0_1 := Aside0.mk hc0_1; clear hr0_1 hc0_1; have HR1 := Aside0.mk hr1; have HC1 := Aside0.mk hc1; clear hr1 hc1; have HR2 := Aside0.mk hr2; have HC2 := Aside0.mk hc2; clear hr2 hc2
  have hmf : ∀ (fn : Fn) (first cap : Array Value) (w : World), (Instr.makeFunc fn first cap).run Try.prog w = .ok (.func fn first cap) w := fun _ _ _ _ => rfl
  have hu24 := Try.underlying24
  go_enter Try.func24, Try.ntmps24
  go_wp2_with (first | ((with_reducible refine gate_dst (N := 3) rfl ?_); refine bxe 3 #[.int .i64 a0_0, .slice A0_1 l0_1.length c0_1] 24 ?_; intro g0 e_ w0_ b_ l_; have HL_g0 := Aside0.mk (show Below w.heap.size w w0_ from l_); have GG_g0 := Aside0.mk (show w.heap.size ≤ g0 from by rw [e_]; exact Nat.le_refl _); have BB_g0 := Aside0.mk b_; clear e_ b_ l_) | ((with_reducible refine gate_dst (N := 4) rfl ?_); refine bxe 4 #[.slice A1 l1.length c1] 25 ?_; intro g1 e_ w1_ b_ l_; have n_g0 := Aside0.mk (blk_below BB_g0.out l_); have m_g0_g1 := Aside0.mk (show g0 ≠ g1 from by rw [e_]; exact Nat.ne_of_lt (blk_lt BB_g0.out)); have HL_g1 := Aside0.mk (show Below w.heap.size w w1_ from below_step HL_g0.out l_); have GG_g1 := Aside0.mk (show w.heap.size ≤ g1 from by rw [e_]; exact HL_g0.out.size); clear BB_g0; have BB_g0 := n_g0; clear n_g0; have BB_g1 := Aside0.mk b_; clear e_ b_ l_) | ((with_reducible refine gate_dst (N := 5) rfl ?_); refine bxe 5 #[.slice A2 l2.length c2] 26 ?_; intro g2 e_ w2_ b_ l_; have n_g0 := Aside0.mk (blk_below BB_g0.out l_); have m_g0_g2 := Aside0.mk (show g0 ≠ g2 from by rw [e_]; exact Nat.ne_of_lt (blk_lt BB_g0.out)); have n_g1 := Aside0.mk (blk_below BB_g1.out l_); have m_g1_g2 := Aside0.mk (show g1 ≠ g2 from by rw [e_]; exact Nat.ne_of_lt (blk_lt BB_g1.out)); have HL_g2 := Aside0.mk (show Below w.heap.size w w2_ from below_step HL_g1.out l_); have GG_g2 := Aside0.mk (show w.heap.size ≤ g2 from by rw [e_]; exact HL_g1.out.size); clear BB_g0; have BB_g0 := n_g0; clear n_g0; clear BB_g1; have BB_g1 := n_g1; clear n_g1; have BB_g2 := Aside0.mk b_; clear e_ b_ l_) | ((with_reducible refine gate_callee (f := 48) rfl ?_); refine gl 8 Try.func48 #[.func (.func 65) #[] #[.pointer (some ⟨g0, 0, none⟩), .pointer (some ⟨g1, 0, none⟩), .pointer (some ⟨g2, 0, none⟩)]] ?_; refine proof_NoPlan.look k a0_0 A0_1 c0_1 l0_1 A1 c1 l1 A2 c2 l2 r  w _ g0 g1 g2 HR0_1.out HC0_1.out HR1.out HC1.out HR2.out HC2.out HL_g2.out BB_g0.out GG_g0.out BB_g1.out GG_g1.out BB_g2.out GG_g2.out m_g0_g1.out m_g0_g2.out m_g1_g2.out A_.out (fun w4 l4 => ⟨_, rfl, ?_⟩); have L4 := Aside0.mk l4; clear l4))
  go_ret
  exact ⟨by first | rfl | (simp; done), L4.out⟩

end Go.Proofs.Ytkdoihcjhccliaa.Q
