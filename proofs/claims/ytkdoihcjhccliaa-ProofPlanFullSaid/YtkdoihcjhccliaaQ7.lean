import Derived.Test.YtkdoihcjhccliaaQ0
import Derived.Test.YtkdoihcjhccliaaQ3
namespace Go.Proofs.Ytkdoihcjhccliaa.Q
open Go.RowKit Go.Proofs.YtkdoihcjhccliaaW.PrintWords Go.Proofs.YtkdoihcjhccliaaW.PrintLast Go.Proofs.YtkdoihcjhccliaaW.PrintMore
attribute [local go_sem] max2_int min2_int max_two min_two max_three min_three max_four min_four   -- for this text's walks alone
set_option linter.unusedVariables false
set_option linter.unusedSimpArgs false

/-! ### proof_across: function 53 -/
def proof_across.l0 : Nat → List Bool → Int → List (S98) → Int → Int → Option (Int × Int)
  | 0, _, _, _, _, _ => none
  | k + 1, x1, x5, x15, x16, x17 => if x17 < x16 then (if 0 ≤ x17 then (if x17 < (x15.length : Int) then (if 0 ≤ ((rd_T98 x15 x17).f0) then (if ((rd_T98 x15 x17).f0) < (x1.length : Int) then (if rdOf false x1 ((rd_T98 x15 x17).f0) = true then (if 0 ≤ ((rd_T98 x15 x17).f1) then (if ((rd_T98 x15 x17).f1) < (x1.length : Int) then (if (rdOf false x1 ((rd_T98 x15 x17).f1) = true) then (proof_across.l0 k x1 x5 x15 x16 (wrap64 (x17 + 1))) else (proof_across.l0 k x1 (wrap64 (x5 + ((rd_T98 x15 x17).f2))) x15 x16 (wrap64 (x17 + 1)))) else (none)) else (none)) else (proof_across.l0 k x1 x5 x15 x16 (wrap64 (x17 + 1)))) else (none)) else (none)) else (none)) else (none)) else (some (0, x5))
def proof_across.f (k : Nat) (a0_0 : Int) (l0_1 : List (S98)) (l1 : List Bool) : Option (Int × Int) := if (l1.length : Int) = a0_0 then (proof_across.l0 k l1 0 l0_1 (l0_1.length : Int) 0) else (some (221, 0))
set_option maxHeartbeats 8000000 in
set_option maxRecDepth 100000 in
theorem proof_across.calls (k : Nat) (a0_0 : Int) (A0_1 : Option Addr) (c0_1 : Nat) (l0_1 : List (S98)) (A1 : Option Addr) (c1 : Nat) (l1 : List Bool) (r1 : Int) (r2 : Int) (w : World) (hr0_1 : Kd.C k98 w A0_1 l0_1.length l0_1) (hc0_1 : l0_1.length ≤ c0_1) (hr1 : Kd.C Kd.bool w A1 l1.length l1) (hc1 : l1.length ≤ c1) (h : proof_across.f k a0_0 l0_1 l1 = some (r1, r2)) :
    Calls Try.prog 53 #[.agg #[.int .i64 a0_0, .slice A0_1 l0_1.length c0_1], .slice A1 l1.length c1] w fun e w' => Gave r1 (e = .returned (.int .i64 r2) ∧ Below w.heap.size w w') (e = gave r1 ∧ Below w.heap.size w w') := by
 have hu24 := Try.underlying24; have hu98 := Try.underlying98; have HR0_1 := ak hr0_1; have HC0_1 := ak hc0_1; clear hr0_1 hc0_1; have HR1 := ak hr1; have HC1 := ak hc1; clear hr1 hc1; have HB := ak (Below.refl w.heap.size w); have H : (if (l1.length : Int) = a0_0 then (proof_across.l0 k l1 0 l0_1 (l0_1.length : Int) 0) else (some (221, 0))) = some (r1, r2) := h; clear h
 by_cases c3 : (l1.length : Int) = a0_0
 rotate_left
 ·
  rw [if_neg c3] at H; have c3b := bn2 c3
  simp only [Option.some.injEq, Prod.mk.injEq] at H
  obtain ⟨rfl, rfl⟩ := H
  go_enter Try.func53, Try.ntmps53
  go_wp2_with (first | ((with_reducible refine gate_dst (N := 2) rfl ?_); refine bxe 2 #[.int .i64 a0_0, .slice A0_1 l0_1.length c0_1] 24 ?_; intro gb126 hg w27 hbox hb; have n_ := a4 (bl hb) hbox (gw w hg) (gw w hg); clear HB; obtain ⟨HB, BK126, GW126, GE126⟩ := n_; clear hb hbox hg; have ⟨_, _, _, _⟩ := cf2 BK126) | ((with_reducible refine gate_callee (f := 51) rfl ?_); refine pl 13 Try.func51 #[.bool false, .int .i64 221] ?_; refine (proof_need.bad 221 _).mono ?_; rintro e w' ⟨rfl, rfl⟩; refine ⟨_, rfl, ?_⟩; (repeat (first | refine panic_then ?_ | refine panic_block ?_)); exact panic_body rfl (Gave.no da ⟨rfl, lb⟩)))
 rw [if_pos c3] at H; have c3b := be2 c3; clear c3; have A4 := ak (show proof_need.f true 221 = some () from rfl); have H' := ak H; clear H
 go_enter Try.func53, Try.ntmps53
 go_wp2_with (first | ((with_reducible refine gate_dst (N := 2) rfl ?_); refine bxe 2 #[.int .i64 a0_0, .slice A0_1 l0_1.length c0_1] 24 ?_; intro gb126 hg w5 hbox hb; have n_ := a4 (bl hb) hbox (gw w hg) (gw w hg); clear HB; obtain ⟨HB, BK126, GW126, GE126⟩ := n_; clear hb hbox hg; have ⟨_, _, _, _⟩ := cf2 BK126) | ((with_reducible refine gate_callee (f := 51) rfl ?_); refine gl 13 Try.func51 #[.bool true, .int .i64 221] ?_; (with_reducible refine (proof_need.calls true 221  _ A4.out).mono ?_); rintro e w' ⟨rfl, ⟨nd, rfl⟩⟩; refine ⟨_, rfl, ?_⟩))
 go_loopg [5, 17] k (fun kq v5 v17 w' => ∃ (x5_1 : Int) (x17_1 : Int), v5 = .int .i64 x5_1 ∧ v17 = .int .i64 x17_1 ∧ Aside0 (proof_across.l0 kq l1 x5_1 l0_1 (l0_1.length : Int) x17_1 = some (r1, r2)) ∧ Aside0 (kq ≤ k) ∧ Aside0 (w'.heap[gb126]? = some (.cells #[.int .i64 a0_0, (.slice A0_1 l0_1.length c0_1)] 24 (0, 0))) ∧ Aside0 (Below w.heap.size w w'))
 case atStart => exact ⟨(0), (0), sr, sr, H', ⟨Nat.le_refl _⟩, xb BK126, ⟨lb⟩⟩
 clear H'; obtain ⟨x5_1, x17_1, rfl, rfl, HA, HK1, BK126, HB⟩ := hrel
 cases gk with
 | zero => exact absurd HA.out (by simp [proof_across.l0])
 | succ k1 => ?_
 have H := HA.out; clear HA
 simp only [proof_across.l0] at H
 by_cases c7 : x17_1 < (l0_1.length : Int)
 rotate_left
 ·
  rw [if_neg c7] at H; have c7b0 := decide_eq_false c7; clear c7
  simp only [Option.some.injEq, Prod.mk.injEq] at H
  obtain ⟨rfl, rfl⟩ := H
  go_wp2
  go_ret
  exact Gave.ok ⟨er, lb⟩
 rw [if_pos c7] at H; have c7b0 := decide_eq_true c7; clear c7; replace H := if3 H; obtain ⟨c8b0, c9b0, c10b0, H⟩ := H; replace H := ifd H; obtain ⟨c11b0, H⟩ := H; obtain ⟨bq12, hbq12⟩ : ∃ b_ : Bool, b_ = (rdOf false l1 ((rd_T98 l0_1 x17_1).f0)) := ⟨_, rfl⟩; replace H : (if bq12 = true then (if 0 ≤ ((rd_T98 l0_1 x17_1).f1) then (if ((rd_T98 l0_1 x17_1).f1) < (l1.length : Int) then (if (rdOf false l1 ((rd_T98 l0_1 x17_1).f1) = true) then (proof_across.l0 k1 l1 x5_1 l0_1 (l0_1.length : Int) (wrap64 (x17_1 + 1))) else (proof_across.l0 k1 l1 (wrap64 (x5_1 + ((rd_T98 l0_1 x17_1).f2))) l0_1 (l0_1.length : Int) (wrap64 (x17_1 + 1)))) else (none)) else (none)) else (proof_across.l0 k1 l1 x5_1 l0_1 (l0_1.length : Int) (wrap64 (x17_1 + 1)))) = some (r1, r2) := by rw [← hbq12] at H; exact H
 have Nbq12 := ak hbq12; clear hbq12
 by_cases c13 : bq12 = true
 rotate_left
 ·
  replace c13 := Bool.eq_false_iff.mpr c13; subst c13
  have H1 : (proof_across.l0 k1 l1 x5_1 l0_1 (l0_1.length : Int) (wrap64 (x17_1 + 1))) = some (r1, r2) := by rw [if_neg (show ¬ (false = true) by decide)] at H; exact H
  clear H; have H := H1; clear H1; have H' := ak H; clear H; obtain ⟨p127, q127, ad127, e127, hx127_0, hx127_1, hx127_2, hx127_3⟩ := wq (at_T98 HR0_1.out x17_1); cases e127
  (try replace hx127_0 := hbc HB hx127_0)
  (try replace hx127_1 := hbc HB hx127_1)
  (try replace hx127_2 := hbc HB hx127_2)
  (try replace hx127_3 := hbc HB hx127_3)
  go_wp2_with (first | ((with_reducible refine gate_dst (N := 7) rfl ?_); refine bxe 7 #[.int .i64 0, .int .i64 0, .int .i64 0, .int .i64 0] 98 ?_; intro gb128 hg w24 hbox hb; have n_ := a7 (bo BK126 hb) (bl hb) hbox (gw w hg) (gw w hg) (nl hg BK126) (nr hg BK126); clear BK126 HB; obtain ⟨BK126, HB, BK128, GW128, GE128, NB126_128, NB128_126⟩ := n_; clear hb hbox hg; have ⟨_, _⟩ := nn NB128_126; have ⟨_, _, _, _, _, _, _, _⟩ := cf4 BK128; obtain ⟨p129, q129, ad129, e129, hx129_0⟩ := wq (Kd.at_bool HR1.out ((rd_T98 l0_1 x17_1).f0)); (try rw [← Nbq12.out] at hx129_0); cases e129; have hn129_0 := an hx129_0 GW128; have hn129_1 := an hx129_0 GW128; have hn129_2 := an hx129_0 GW128; have hn129_3 := an hx129_0 GW128; replace hx129_0 := hbc HB hx129_0; replace hx129_0 := cg ⟨gb128, 0, none⟩ (.int .i64 ((rd_T98 l0_1 x17_1).f0)) hx129_0 hn129_0; replace hx129_0 := cg ⟨gb128, 1, none⟩ (.int .i64 ((rd_T98 l0_1 x17_1).f1)) hx129_0 hn129_1; replace hx129_0 := cg ⟨gb128, 2, none⟩ (.int .i64 ((rd_T98 l0_1 x17_1).f2)) hx129_0 hn129_2; replace hx129_0 := cg ⟨gb128, 3, none⟩ (.int .i64 ((rd_T98 l0_1 x17_1).f3)) hx129_0 hn129_3; clear hn129_0; clear hn129_1; clear hn129_2; clear hn129_3))
  go_roundg k1
  case measure => have := HK1.out; omega
  case rel => exact ⟨(x5_1), (wrap64 (x17_1 + 1)), sr, sr, H', ⟨by have := HK1.out; omega⟩, ⟨by (with_reducible repeat (first | refine blk_drewN ?_ _ | refine blk_drew ?_ | refine blk_alloc ?_ _)); refine blk_far ?_ NB126_128.out _; (with_reducible repeat (first | refine blk_drewN ?_ _ | refine blk_drew ?_ | refine blk_alloc ?_ _)); refine blk_far ?_ NB126_128.out _; (with_reducible repeat (first | refine blk_drewN ?_ _ | refine blk_drew ?_ | refine blk_alloc ?_ _)); refine blk_far ?_ NB126_128.out _; (with_reducible repeat (first | refine blk_drewN ?_ _ | refine blk_drew ?_ | refine blk_alloc ?_ _)); refine blk_far ?_ NB126_128.out _; exact bx BK126.out⟩, ⟨lb⟩⟩
 subst c13
 replace H := ip H; replace H := if2 H; obtain ⟨c14b0, c15b0, H⟩ := H; obtain ⟨bq16, hbq16⟩ : ∃ b_ : Bool, b_ = (rdOf false l1 ((rd_T98 l0_1 x17_1).f1)) := ⟨_, rfl⟩; replace H : (if (bq16 = true) then (proof_across.l0 k1 l1 x5_1 l0_1 (l0_1.length : Int) (wrap64 (x17_1 + 1))) else (proof_across.l0 k1 l1 (wrap64 (x5_1 + ((rd_T98 l0_1 x17_1).f2))) l0_1 (l0_1.length : Int) (wrap64 (x17_1 + 1)))) = some (r1, r2) := by rw [← hbq16] at H; exact H
 have Nbq16 := ak hbq16; clear hbq16
 by_cases c17 : (bq16 = true)
 ·
  subst c17
  replace H := ip H; have H' := ak H; clear H; obtain ⟨p127, q127, ad127, e127, hx127_0, hx127_1, hx127_2, hx127_3⟩ := wq (at_T98 HR0_1.out x17_1); cases e127
  (try replace hx127_0 := hbc HB hx127_0)
  (try replace hx127_1 := hbc HB hx127_1)
  (try replace hx127_2 := hbc HB hx127_2)
  (try replace hx127_3 := hbc HB hx127_3)
  go_wp2_with (first | ((with_reducible refine gate_dst (N := 7) rfl ?_); refine bxe 7 #[.int .i64 0, .int .i64 0, .int .i64 0, .int .i64 0] 98 ?_; intro gb128 hg w18 hbox hb; have n_ := a7 (bo BK126 hb) (bl hb) hbox (gw w hg) (gw w hg) (nl hg BK126) (nr hg BK126); clear BK126 HB; obtain ⟨BK126, HB, BK128, GW128, GE128, NB126_128, NB128_126⟩ := n_; clear hb hbox hg; have ⟨_, _⟩ := nn NB128_126; have ⟨_, _, _, _, _, _, _, _⟩ := cf4 BK128; obtain ⟨p129, q129, ad129, e129, hx129_0⟩ := wq (Kd.at_bool HR1.out ((rd_T98 l0_1 x17_1).f0)); (try rw [← Nbq12.out] at hx129_0); (try rw [← Nbq16.out] at hx129_0); cases e129; have hn129_0 := an hx129_0 GW128; have hn129_1 := an hx129_0 GW128; have hn129_2 := an hx129_0 GW128; have hn129_3 := an hx129_0 GW128; replace hx129_0 := hbc HB hx129_0; replace hx129_0 := cg ⟨gb128, 0, none⟩ (.int .i64 ((rd_T98 l0_1 x17_1).f0)) hx129_0 hn129_0; replace hx129_0 := cg ⟨gb128, 1, none⟩ (.int .i64 ((rd_T98 l0_1 x17_1).f1)) hx129_0 hn129_1; replace hx129_0 := cg ⟨gb128, 2, none⟩ (.int .i64 ((rd_T98 l0_1 x17_1).f2)) hx129_0 hn129_2; replace hx129_0 := cg ⟨gb128, 3, none⟩ (.int .i64 ((rd_T98 l0_1 x17_1).f3)) hx129_0 hn129_3; clear hn129_0; clear hn129_1; clear hn129_2; clear hn129_3; obtain ⟨p130, q130, ad130, e130, hx130_0⟩ := wq (Kd.at_bool HR1.out ((rd_T98 l0_1 x17_1).f1)); (try rw [← Nbq12.out] at hx130_0); (try rw [← Nbq16.out] at hx130_0); obtain rfl : ad129 = ad130 := (by injection e130); have hn130_0 := an hx130_0 GW128; have hn130_1 := an hx130_0 GW128; have hn130_2 := an hx130_0 GW128; have hn130_3 := an hx130_0 GW128; replace hx130_0 := hbc HB hx130_0; replace hx130_0 := cg ⟨gb128, 0, none⟩ (.int .i64 ((rd_T98 l0_1 x17_1).f0)) hx130_0 hn130_0; replace hx130_0 := cg ⟨gb128, 1, none⟩ (.int .i64 ((rd_T98 l0_1 x17_1).f1)) hx130_0 hn130_1; replace hx130_0 := cg ⟨gb128, 2, none⟩ (.int .i64 ((rd_T98 l0_1 x17_1).f2)) hx130_0 hn130_2; replace hx130_0 := cg ⟨gb128, 3, none⟩ (.int .i64 ((rd_T98 l0_1 x17_1).f3)) hx130_0 hn130_3; clear hn130_0; clear hn130_1; clear hn130_2; clear hn130_3))
  go_roundg k1
  case measure => have := HK1.out; omega
  case rel => exact ⟨(x5_1), (wrap64 (x17_1 + 1)), sr, sr, H', ⟨by have := HK1.out; omega⟩, ⟨by (with_reducible repeat (first | refine blk_drewN ?_ _ | refine blk_drew ?_ | refine blk_alloc ?_ _)); refine blk_far ?_ NB126_128.out _; (with_reducible repeat (first | refine blk_drewN ?_ _ | refine blk_drew ?_ | refine blk_alloc ?_ _)); refine blk_far ?_ NB126_128.out _; (with_reducible repeat (first | refine blk_drewN ?_ _ | refine blk_drew ?_ | refine blk_alloc ?_ _)); refine blk_far ?_ NB126_128.out _; (with_reducible repeat (first | refine blk_drewN ?_ _ | refine blk_drew ?_ | refine blk_alloc ?_ _)); refine blk_far ?_ NB126_128.out _; exact bx BK126.out⟩, ⟨lb⟩⟩
 replace c17 := Bool.eq_false_iff.mpr c17; subst c17
 have H1 : (proof_across.l0 k1 l1 (wrap64 (x5_1 + ((rd_T98 l0_1 x17_1).f2))) l0_1 (l0_1.length : Int) (wrap64 (x17_1 + 1))) = some (r1, r2) := by rw [if_neg (show ¬ (false = true) by decide)] at H; exact H
 clear H; have H := H1; clear H1; have H' := ak H; clear H; obtain ⟨p127, q127, ad127, e127, hx127_0, hx127_1, hx127_2, hx127_3⟩ := wq (at_T98 HR0_1.out x17_1); cases e127
 (try replace hx127_0 := hbc HB hx127_0)
 (try replace hx127_1 := hbc HB hx127_1)
 (try replace hx127_2 := hbc HB hx127_2)
 (try replace hx127_3 := hbc HB hx127_3)
 go_wp2_with (first | ((with_reducible refine gate_dst (N := 7) rfl ?_); refine bxe 7 #[.int .i64 0, .int .i64 0, .int .i64 0, .int .i64 0] 98 ?_; intro gb128 hg w21 hbox hb; have n_ := a7 (bo BK126 hb) (bl hb) hbox (gw w hg) (gw w hg) (nl hg BK126) (nr hg BK126); clear BK126 HB; obtain ⟨BK126, HB, BK128, GW128, GE128, NB126_128, NB128_126⟩ := n_; clear hb hbox hg; have ⟨_, _⟩ := nn NB128_126; have ⟨_, _, _, _, _, _, _, _⟩ := cf4 BK128; obtain ⟨p129, q129, ad129, e129, hx129_0⟩ := wq (Kd.at_bool HR1.out ((rd_T98 l0_1 x17_1).f0)); (try rw [← Nbq12.out] at hx129_0); (try rw [← Nbq16.out] at hx129_0); cases e129; have hn129_0 := an hx129_0 GW128; have hn129_1 := an hx129_0 GW128; have hn129_2 := an hx129_0 GW128; have hn129_3 := an hx129_0 GW128; replace hx129_0 := hbc HB hx129_0; replace hx129_0 := cg ⟨gb128, 0, none⟩ (.int .i64 ((rd_T98 l0_1 x17_1).f0)) hx129_0 hn129_0; replace hx129_0 := cg ⟨gb128, 1, none⟩ (.int .i64 ((rd_T98 l0_1 x17_1).f1)) hx129_0 hn129_1; replace hx129_0 := cg ⟨gb128, 2, none⟩ (.int .i64 ((rd_T98 l0_1 x17_1).f2)) hx129_0 hn129_2; replace hx129_0 := cg ⟨gb128, 3, none⟩ (.int .i64 ((rd_T98 l0_1 x17_1).f3)) hx129_0 hn129_3; clear hn129_0; clear hn129_1; clear hn129_2; clear hn129_3; obtain ⟨p130, q130, ad130, e130, hx130_0⟩ := wq (Kd.at_bool HR1.out ((rd_T98 l0_1 x17_1).f1)); (try rw [← Nbq12.out] at hx130_0); (try rw [← Nbq16.out] at hx130_0); obtain rfl : ad129 = ad130 := (by injection e130); have hn130_0 := an hx130_0 GW128; have hn130_1 := an hx130_0 GW128; have hn130_2 := an hx130_0 GW128; have hn130_3 := an hx130_0 GW128; replace hx130_0 := hbc HB hx130_0; replace hx130_0 := cg ⟨gb128, 0, none⟩ (.int .i64 ((rd_T98 l0_1 x17_1).f0)) hx130_0 hn130_0; replace hx130_0 := cg ⟨gb128, 1, none⟩ (.int .i64 ((rd_T98 l0_1 x17_1).f1)) hx130_0 hn130_1; replace hx130_0 := cg ⟨gb128, 2, none⟩ (.int .i64 ((rd_T98 l0_1 x17_1).f2)) hx130_0 hn130_2; replace hx130_0 := cg ⟨gb128, 3, none⟩ (.int .i64 ((rd_T98 l0_1 x17_1).f3)) hx130_0 hn130_3; clear hn130_0; clear hn130_1; clear hn130_2; clear hn130_3))
 go_roundg k1
 case measure => have := HK1.out; omega
 case rel => exact ⟨(wrap64 (x5_1 + ((rd_T98 l0_1 x17_1).f2))), (wrap64 (x17_1 + 1)), sr, sr, H', ⟨by have := HK1.out; omega⟩, ⟨by (with_reducible repeat (first | refine blk_drewN ?_ _ | refine blk_drew ?_ | refine blk_alloc ?_ _)); refine blk_far ?_ NB126_128.out _; (with_reducible repeat (first | refine blk_drewN ?_ _ | refine blk_drew ?_ | refine blk_alloc ?_ _)); refine blk_far ?_ NB126_128.out _; (with_reducible repeat (first | refine blk_drewN ?_ _ | refine blk_drew ?_ | refine blk_alloc ?_ _)); refine blk_far ?_ NB126_128.out _; (with_reducible repeat (first | refine blk_drewN ?_ _ | refine blk_drew ?_ | refine blk_alloc ?_ _)); refine blk_far ?_ NB126_128.out _; exact bx BK126.out⟩, ⟨lb⟩⟩
theorem proof_across.ok (k : Nat) (a0_0 : Int) (A0_1 : Option Addr) (c0_1 : Nat) (l0_1 : List (S98)) (A1 : Option Addr) (c1 : Nat) (l1 : List Bool) (r2 : Int) (w : World) (hr0_1 : Kd.C k98 w A0_1 l0_1.length l0_1) (hc0_1 : l0_1.length ≤ c0_1) (hr1 : Kd.C Kd.bool w A1 l1.length l1) (hc1 : l1.length ≤ c1) (h : proof_across.f k a0_0 l0_1 l1 = some (0, r2)) :
    Calls Try.prog 53 #[.agg #[.int .i64 a0_0, .slice A0_1 l0_1.length c0_1], .slice A1 l1.length c1] w fun e w' => e = .returned (.int .i64 r2) ∧ Below w.heap.size w w' :=
 (proof_across.calls k a0_0 A0_1 c0_1 l0_1 A1 c1 l1 0 r2 w hr0_1 hc0_1 hr1 hc1 h).mono fun e w' h_ => h_.good rfl
theorem proof_across.bad (k : Nat) (a0_0 : Int) (A0_1 : Option Addr) (c0_1 : Nat) (l0_1 : List (S98)) (A1 : Option Addr) (c1 : Nat) (l1 : List Bool) (r1 : Int) (r2 : Int) (w : World) (hr0_1 : Kd.C k98 w A0_1 l0_1.length l0_1) (hc0_1 : l0_1.length ≤ c0_1) (hr1 : Kd.C Kd.bool w A1 l1.length l1) (hc1 : l1.length ≤ c1) (h : proof_across.f k a0_0 l0_1 l1 = some (r1, r2)) (hne_ : r1 ≠ 0) :
    Calls Try.prog 53 #[.agg #[.int .i64 a0_0, .slice A0_1 l0_1.length c0_1], .slice A1 l1.length c1] w fun e w' => e = gave r1 ∧ Below w.heap.size w w' :=
 (proof_across.calls k a0_0 A0_1 c0_1 l0_1 A1 c1 l1 r1 r2 w hr0_1 hc0_1 hr1 hc1 h).mono fun e w' h_ => h_.bad hne_

end Go.Proofs.Ytkdoihcjhccliaa.Q
