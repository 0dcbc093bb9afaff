import Derived.Test.YtkdoihcjhccliaaQ0
import Derived.Test.YtkdoihcjhccliaaQ3
namespace Go.Proofs.Ytkdoihcjhccliaa.Q
open Go.RowKit Go.Proofs.YtkdoihcjhccliaaW.PrintWords Go.Proofs.YtkdoihcjhccliaaW.PrintLast Go.Proofs.YtkdoihcjhccliaaW.PrintMore
attribute [local go_sem] max2_int min2_int max_two min_two max_three min_three max_four min_four   -- for this text's walks alone
set_option linter.unusedVariables false
set_option linter.unusedSimpArgs false

/-! ### proof_reduced: function 62 -/
mutual
def proof_reduced.l0 : Nat → List Int → Int → List Int → Int → Int → Int → List (S98) → Option (Int × List Int)
  | 0, _, _, _, _, _, _, _ => none
  | k + 1, x1, x2, x18, x19, x20, x148000, x148001 => if x20 < x19 then (if 0 ≤ x20 then (if x20 < (x18.length : Int) then (if (rd x18 x20) ≥ (-4398046511104) then (if (rd x18 x20) ≤ 4398046511104 then (proof_reduced.l0 k x1 x2 x18 x19 (wrap64 (x20 + 1)) x148000 x148001) else (some (221, ([] : List Int)))) else (some (221, ([] : List Int)))) else (none)) else (none)) else (if 0 ≤ (x148001.length : Int) then (if ((x148001.length : Int) : Int).toNat ≤ 35184372088832 then (proof_reduced.l1 k x1 x2 (([] : List Int)) x148001 (x148001.length : Int) 0) else (none)) else (none))
def proof_reduced.l1 : Nat → List Int → Int → List Int → List (S98) → Int → Int → Option (Int × List Int)
  | 0, _, _, _, _, _, _ => none
  | k + 1, x1, x2, x9, x37, x38, x39 => if x39 < x38 then (if 0 ≤ x39 then (if x39 < (x37.length : Int) then (if 0 ≤ ((rd_T98 x37 x39).f0) then (if ((rd_T98 x37 x39).f0) < (x1.length : Int) then (if 0 ≤ ((rd_T98 x37 x39).f1) then (if ((rd_T98 x37 x39).f1) < (x1.length : Int) then (if x9.length < 17592186044416 then (proof_reduced.l1 k x1 x2 (x9 ++ [wrap64 ((wrap64 ((wrap64 (x2 * ((rd_T98 x37 x39).f3))) + (rd x1 ((rd_T98 x37 x39).f0)))) - (rd x1 ((rd_T98 x37 x39).f1)))]) x37 x38 (wrap64 (x39 + 1))) else (none)) else (none)) else (none)) else (none)) else (none)) else (none)) else (none)) else (some (0, x9))
end
def proof_reduced.f (k : Nat) (a0_0 : Int) (l0_1 : List (S98)) (l1 : List Int) (a2 : Int) : Option (Int × List Int) := if (l1.length : Int) = a0_0 then (proof_reduced.l0 k l1 a2 l1 (l1.length : Int) 0 a0_0 l0_1) else (some (221, ([] : List Int)))
def proof_reduced.T11 : Bool × List (List Nat × List Nat) := (true, [([], []), ([], []), ([], []), ([2], [2]), ([1, 3], [1, 3]), ([], []), ([], []), ([6], [6]), ([5, 7], [5, 7]), ([8], [8]), ([4, 9], [4, 9]), ([], []), ([], []), ([12], [12]), ([11, 13], [11, 13]), ([14], [14]), ([10, 15], [10, 15]), ([16], [16]), ([0, 17], [0, 17]), ([18, 18, 0, 1, 2, 3, 4, 5, 6, 7, 8, 9, 10, 11, 12, 13, 14, 15, 16, 17, 18], [0, 18])])
def proof_reduced.B11 : List Nat := [0, 0, 0, 4, 14, 0, 0, 64, 224, 480, 1022, 0, 0, 4096, 14336, 30720, 65534, 131070, 262143, 524287]
theorem proof_reduced.tab11 : rtab .any (opsOf Try.f62 11) = proof_reduced.T11 := by kernel_rfl
theorem proof_reduced.bits11 : waitsOk proof_reduced.T11.2 proof_reduced.B11 = true := by kernel_rfl
set_option maxHeartbeats 8000000 in
set_option maxRecDepth 100000 in
theorem proof_reduced.calls (k : Nat) (a0_0 : Int) (A0_1 : Option Addr) (c0_1 : Nat) (l0_1 : List (S98)) (A1 : Option Addr) (c1 : Nat) (l1 : List Int) (a2 : Int) (r1 : Int) (r2 : List Int) (w : World) (hr0_1 : Kd.C k98 w A0_1 l0_1.length l0_1) (hc0_1 : l0_1.length ≤ c0_1) (hr1 : Kd.C (Kd.int .i64) w A1 l1.length l1) (hc1 : l1.length ≤ c1) (h : proof_reduced.f k a0_0 l0_1 l1 a2 = some (r1, r2)) :
    Calls Try.prog 62 #[.agg #[.int .i64 a0_0, .slice A0_1 l0_1.length c0_1], .slice A1 l1.length c1, .int .i64 a2] w fun e w' => Gave r1 (∃ v1_ : Value, e = .returned (v1_) ∧ Kd.R (Kd.int .i64) 2 w' w.heap.size (fun _ => True) v1_ r2 ∧ Below w.heap.size w w') (e = gave r1 ∧ Below w.heap.size w w') := by
 have hu24 := Try.underlying24; have hu98 := Try.underlying98; have HR0_1 := ak hr0_1; have HC0_1 := ak hc0_1; clear hr0_1 hc0_1; have HR1 := ak hr1; have HC1 := ak hc1; clear hr1 hc1; have HB := ak (Below.refl w.heap.size w); have H : (if (l1.length : Int) = a0_0 then (proof_reduced.l0 k l1 a2 l1 (l1.length : Int) 0 a0_0 l0_1) else (some (221, ([] : List Int)))) = some (r1, r2) := h; clear h
 by_cases c4 : (l1.length : Int) = a0_0
 rotate_left
 ·
  rw [if_neg c4] at H; have c4b := bn2 c4
  simp only [Option.some.injEq, Prod.mk.injEq] at H
  obtain ⟨rfl, rfl⟩ := H
  go_enter Try.func62, Try.ntmps62
  go_wp2_with (first | ((with_reducible refine gate_dst (N := 3) rfl ?_); refine bxe 3 #[.int .i64 a0_0, .slice A0_1 l0_1.length c0_1] 24 ?_; intro gb147 hg w34 hbox hb; have n_ := a4 (bl hb) hbox (gw w hg) (gw w hg); clear HB; obtain ⟨HB, BK147, GW147, GE147⟩ := n_; clear hb hbox hg; have ⟨_, _, _, _⟩ := cf2 BK147) | ((with_reducible refine gate_callee (f := 51) rfl ?_); refine pl 17 Try.func51 #[.bool false, .int .i64 221] ?_; refine (proof_need.bad 221 _).mono ?_; rintro e w' ⟨rfl, rfl⟩; refine ⟨_, rfl, ?_⟩; (repeat (first | refine panic_then ?_ | refine panic_block ?_)); exact panic_body rfl (Gave.no da ⟨rfl, lb⟩)))
 rw [if_pos c4] at H; have c4b := be2 c4; clear c4; have A5 := ak (show proof_need.f true 221 = some () from rfl); have H' := ak H; clear H
 go_enter Try.func62, Try.ntmps62
 go_wp2_with (first | ((with_reducible refine gate_dst (N := 3) rfl ?_); refine bxe 3 #[.int .i64 a0_0, .slice A0_1 l0_1.length c0_1] 24 ?_; intro gb147 hg w6 hbox hb; have n_ := a4 (bl hb) hbox (gw w hg) (gw w hg); clear HB; obtain ⟨HB, BK147, GW147, GE147⟩ := n_; clear hb hbox hg; have ⟨_, _, _, _⟩ := cf2 BK147) | ((with_reducible refine gate_callee (f := 51) rfl ?_); refine gl 17 Try.func51 #[.bool true, .int .i64 221] ?_; (with_reducible refine (proof_need.calls true 221  _ A5.out).mono ?_); rintro e w' ⟨rfl, ⟨nd, rfl⟩⟩; refine ⟨_, rfl, ?_⟩))
 go_loopg [20] k (fun kq v20 w' => ∃ (x20_1 : Int), v20 = .int .i64 x20_1 ∧ Aside0 (proof_reduced.l0 kq l1 a2 l1 (l1.length : Int) x20_1 a0_0 l0_1 = some (r1, r2)) ∧ Aside0 (kq ≤ k) ∧ Aside0 (w'.heap[gb147]? = some (.cells #[.int .i64 a0_0, (.slice A0_1 l0_1.length c0_1)] 24 (0, 0))) ∧ Aside0 (Below w.heap.size w w'))
 case atStart => exact ⟨(0), sr, H', ⟨Nat.le_refl _⟩, xb BK147, ⟨lb⟩⟩
 clear H'; obtain ⟨x20_1, rfl, HA, HK1, BK147, HB⟩ := hrel
 cases gk with
 | zero => exact absurd HA.out (by simp [proof_reduced.l0])
 | succ k1 => ?_
 have H := HA.out; clear HA
 simp only [proof_reduced.l0] at H
 by_cases c8 : x20_1 < (l1.length : Int)
 ·
  rw [if_pos c8] at H; have c8b0 := decide_eq_true c8; clear c8; replace H := if2 H; obtain ⟨c9b0, c10b0, H⟩ := H
  by_cases c11 : (rd l1 x20_1) ≥ (-4398046511104)
  rotate_left
  ·
   rw [if_neg c11] at H; have c11b0 := decide_eq_false c11; clear c11
   simp only [Option.some.injEq, Prod.mk.injEq] at H
   obtain ⟨rfl, rfl⟩ := H; obtain ⟨p148, q148, ad148, e148, hx148_0⟩ := wq (Kd.at_int HR1.out x20_1); cases e148
   (try replace hx148_0 := hbc HB hx148_0)
   go_wp2_with (first | ((with_reducible refine gate_callee (f := 51) rfl ?_); refine pl 30 Try.func51 #[.bool false, .int .i64 221] ?_; refine (proof_need.bad 221 _).mono ?_; rintro e w' ⟨rfl, rfl⟩; refine ⟨_, rfl, ?_⟩; (repeat (first | refine panic_then ?_ | refine panic_block ?_)); exact panic_body rfl (Gave.no da ⟨rfl, lb⟩)))
  rw [if_pos c11] at H; have c11b0 := decide_eq_true c11; clear c11
  by_cases c12 : (rd l1 x20_1) ≤ 4398046511104
  rotate_left
  ·
   rw [if_neg c12] at H; have c12b0 := decide_eq_false c12; clear c12
   simp only [Option.some.injEq, Prod.mk.injEq] at H
   obtain ⟨rfl, rfl⟩ := H; obtain ⟨p148, q148, ad148, e148, hx148_0⟩ := wq (Kd.at_int HR1.out x20_1); cases e148
   (try replace hx148_0 := hbc HB hx148_0)
   go_wp2_with (first | ((with_reducible refine gate_callee (f := 51) rfl ?_); refine pl 30 Try.func51 #[.bool false, .int .i64 221] ?_; refine (proof_need.bad 221 _).mono ?_; rintro e w' ⟨rfl, rfl⟩; refine ⟨_, rfl, ?_⟩; (repeat (first | refine panic_then ?_ | refine panic_block ?_)); exact panic_body rfl (Gave.no da ⟨rfl, lb⟩)))
  rw [if_pos c12] at H; have c12b0 := decide_eq_true c12; clear c12; have A13 := ak (show proof_need.f true 221 = some () from rfl); have H' := ak H; clear H; obtain ⟨p148, q148, ad148, e148, hx148_0⟩ := wq (Kd.at_int HR1.out x20_1); cases e148
  (try replace hx148_0 := hbc HB hx148_0)
  go_wp2_with (first | ((with_reducible refine gate_callee (f := 51) rfl ?_); refine gl 30 Try.func51 #[.bool true, .int .i64 221] ?_; (with_reducible refine (proof_need.calls true 221  _ A13.out).mono ?_); rintro e w' ⟨rfl, ⟨nd, rfl⟩⟩; refine ⟨_, rfl, ?_⟩))
  go_roundg k1
  case measure => have := HK1.out; omega
  case rel => exact ⟨(wrap64 (x20_1 + 1)), sr, H', ⟨by have := HK1.out; omega⟩, xb BK147, ⟨lb⟩⟩
 rw [if_neg c8] at H; have c8b0 := decide_eq_false c8; clear c8; replace H := ife H; obtain ⟨c14b0, c14b1, H⟩ := H; replace H := ife H; obtain ⟨c15b0, c15b1, H⟩ := H; obtain ⟨y149, hy149⟩ : ∃ y_ : List Int, y_ = (([] : List Int)) := ⟨_, rfl⟩; replace H : (proof_reduced.l1 k1 l1 a2 y149 l0_1 (l0_1.length : Int) 0) = some (r1, r2) := by first | (rw [hy149]; exact H) | exact H
 have Ny149 := ak hy149; clear hy149; have H' := ak H; clear H; have ⟨_, _, _, _⟩ := cf2 BK147
 go_wp2_with (first | ((with_reducible refine gate_dst (N := 35) rfl ?_); refine Kd.R_make0 (Kd.int .i64) _ 2 rfl (N := 35) rfl 25 _ _ rfl (l0_1.length : Int) rfl rfl Try.underlying25 (.int .i64 0) 8 info2 rfl (by decide) (by omega) 0 (ok := fun _ => True) (okp := fun _ => True) rfl (fun _ hk => hk) trivial (oda) (Nat.le_trans (Nat.mul_le_mul_right _ (oda : (l0_1.length : Int).toNat ≤ 35184372088832)) (by omega)) (Below.refl _ _) (Nat.le_refl _) ?_; intro v150 w17 ho18 hb hg_ hnew_; clear hg_ hnew_; (first | rw [← Ny149.out] at ho18 | (simp only [Int.reduceToNat] at ho18; rw [← Ny149.out] at ho18)); have n_ := a3 (Kd.R_lower ho18 (below_size lb)) (bo BK147 hb) (bl hb); clear BK147 HB; obtain ⟨HO151, BK147, HB⟩ := n_; clear hb ho18; have ⟨_, _, _, _⟩ := cf2 BK147))
 go_loopg [9, 39] k1 (fun kq v9 v39 w' => ∃ (x9_2 : List Int) (x39_2 : Int), v39 = .int .i64 x39_2 ∧ Aside0 (proof_reduced.l1 kq l1 a2 x9_2 l0_1 (l0_1.length : Int) x39_2 = some (r1, r2)) ∧ Aside0 (kq ≤ k1) ∧ Aside0 (Kd.R (Kd.int .i64) 2 w' w.heap.size (fun _ => True) v9 x9_2) ∧ Aside0 (w'.heap[gb147]? = some (.cells #[.int .i64 a0_0, (.slice A0_1 l0_1.length c0_1)] 24 (0, 0))) ∧ Aside0 (Below w.heap.size w w'))
 case atStart => exact ⟨(y149), (0), sr, H', ⟨Nat.le_refl _⟩, ⟨rx HO151.out⟩, xb BK147, ⟨lb⟩⟩
 clear H'; obtain ⟨x9_2, x39_2, rfl, HA, HK2, HO_9, BK147, HB⟩ := hrel
 cases gk with
 | zero => exact absurd HA.out (by simp [proof_reduced.l1])
 | succ k2 => ?_
 have H := HA.out; clear HA
 simp only [proof_reduced.l1] at H
 by_cases c20 : x39_2 < (l0_1.length : Int)
 rotate_left
 ·
  rw [if_neg c20] at H; have c20b0 := decide_eq_false c20; clear c20
  simp only [Option.some.injEq, Prod.mk.injEq] at H
  obtain ⟨rfl, rfl⟩ := H
  go_wp2
  go_ret
  exact Gave.ok ⟨_, by first | rfl | (simp [errW_none, errW_some] <;> rfl) | (simp [*, errW_none, errW_some] <;> rfl), by exact rx HO_9.out, lb⟩
 rw [if_pos c20] at H; have c20b0 := decide_eq_true c20; clear c20; replace H := if3 H; obtain ⟨c21b0, c22b0, c23b0, H⟩ := H; replace H := if3 H; obtain ⟨c24b0, c25b0, c26b0, H⟩ := H; replace H := ifn H; obtain ⟨c27, H⟩ := H; have LMc27 := ak c27; clear c27; obtain ⟨y156, hy156⟩ : ∃ y_ : List Int, y_ = (x9_2 ++ [wrap64 ((wrap64 ((wrap64 (a2 * ((rd_T98 l0_1 x39_2).f3))) + (rd l1 ((rd_T98 l0_1 x39_2).f0)))) - (rd l1 ((rd_T98 l0_1 x39_2).f1)))]) := ⟨_, rfl⟩; replace H : (proof_reduced.l1 k2 l1 a2 y156 l0_1 (l0_1.length : Int) (wrap64 (x39_2 + 1))) = some (r1, r2) := by first | (rw [hy156]; exact H) | exact H
 have Ny156 := ak hy156; clear hy156; have H' := ak H; clear H; obtain ⟨p152, q152, ad152, e152, hx152_0, hx152_1, hx152_2, hx152_3⟩ := wq (at_T98 HR0_1.out x39_2); cases e152
 (try replace hx152_0 := hbc HB hx152_0)
 (try replace hx152_1 := hbc HB hx152_1)
 (try replace hx152_2 := hbc HB hx152_2)
 (try replace hx152_3 := hbc HB hx152_3)
 try go_wp2_with (first | ((with_reducible refine gate_dst (N := 11) rfl ?_); refine bxe 11 #[.int .i64 0, .int .i64 0, .int .i64 0, .int .i64 0] 98 ?_; intro gb153 hg w28 hbox hb; have n_ := a8 (ro HO_9 hb) (bo BK147 hb) (bl hb) hbox (gw w hg) (gw w hg) (nl hg BK147) (nr hg BK147); clear HO_9 BK147 HB; obtain ⟨HO_9, BK147, HB, BK153, GW153, GE153, NB147_153, NB153_147⟩ := n_; clear hb hbox hg; have ⟨_, _⟩ := nn NB153_147; have ⟨_, _, _, _, _, _, _, _⟩ := cf4 BK153))
 have n0_ : Aside0 (Kd.R (Kd.int .i64) 2 ((((w28.setCell ⟨gb153, 0, none⟩ (.int .i64 ((rd_T98 l0_1 x39_2).f0))).setCell ⟨gb153, 1, none⟩ (.int .i64 ((rd_T98 l0_1 x39_2).f1))).setCell ⟨gb153, 2, none⟩ (.int .i64 ((rd_T98 l0_1 x39_2).f2))).setCell ⟨gb153, 3, none⟩ (.int .i64 ((rd_T98 l0_1 x39_2).f3))) w.heap.size (fun _ => True) u9 x9_2) := ⟨by exact rx (Kd.R_mono (Kd.R_far (p := ⟨gb153, 3, none⟩) (Kd.R_far (p := ⟨gb153, 2, none⟩) (Kd.R_far (p := ⟨gb153, 1, none⟩) (Kd.R_far (p := ⟨gb153, 0, none⟩) (Kd.R_types HO_9.out BK153.out (by decide)) (fun _ hk => hk.2) (.int .i64 ((rd_T98 l0_1 x39_2).f0))) (fun _ hk => hk.2) (.int .i64 ((rd_T98 l0_1 x39_2).f1))) (fun _ hk => hk.2) (.int .i64 ((rd_T98 l0_1 x39_2).f2))) (fun _ hk => hk.2) (.int .i64 ((rd_T98 l0_1 x39_2).f3))) (fun _ hk => trivial))⟩
 have n1_ : Aside0 (((((w28.setCell ⟨gb153, 0, none⟩ (.int .i64 ((rd_T98 l0_1 x39_2).f0))).setCell ⟨gb153, 1, none⟩ (.int .i64 ((rd_T98 l0_1 x39_2).f1))).setCell ⟨gb153, 2, none⟩ (.int .i64 ((rd_T98 l0_1 x39_2).f2))).setCell ⟨gb153, 3, none⟩ (.int .i64 ((rd_T98 l0_1 x39_2).f3))).heap[gb147]? = some (.cells #[.int .i64 a0_0, .slice (some ad152) l0_1.length c0_1] 24 (0, 0))) := ⟨by (with_reducible repeat (first | refine blk_drewN ?_ _ | refine blk_drew ?_ | refine blk_alloc ?_ _)); refine blk_far ?_ NB147_153.out _; (with_reducible repeat (first | refine blk_drewN ?_ _ | refine blk_drew ?_ | refine blk_alloc ?_ _)); refine blk_far ?_ NB147_153.out _; (with_reducible repeat (first | refine blk_drewN ?_ _ | refine blk_drew ?_ | refine blk_alloc ?_ _)); refine blk_far ?_ NB147_153.out _; (with_reducible repeat (first | refine blk_drewN ?_ _ | refine blk_drew ?_ | refine blk_alloc ?_ _)); refine blk_far ?_ NB147_153.out _; exact bx BK147.out⟩
 have n2_ : Aside0 (((((w28.setCell ⟨gb153, 0, none⟩ (.int .i64 ((rd_T98 l0_1 x39_2).f0))).setCell ⟨gb153, 1, none⟩ (.int .i64 ((rd_T98 l0_1 x39_2).f1))).setCell ⟨gb153, 2, none⟩ (.int .i64 ((rd_T98 l0_1 x39_2).f2))).setCell ⟨gb153, 3, none⟩ (.int .i64 ((rd_T98 l0_1 x39_2).f3))).heap[gb153]? = some (.cells #[.int .i64 ((rd_T98 l0_1 x39_2).f0), .int .i64 ((rd_T98 l0_1 x39_2).f1), .int .i64 ((rd_T98 l0_1 x39_2).f2), .int .i64 ((rd_T98 l0_1 x39_2).f3)] 98 (0, 0))) := ⟨by (with_reducible repeat (first | refine blk_drewN ?_ _ | refine blk_drew ?_ | refine blk_alloc ?_ _)); refine blk_put (cs := #[.int .i64 ((rd_T98 l0_1 x39_2).f0), .int .i64 ((rd_T98 l0_1 x39_2).f1), .int .i64 ((rd_T98 l0_1 x39_2).f2), .int .i64 0]) ?_ 3 _ rfl; (with_reducible repeat (first | refine blk_drewN ?_ _ | refine blk_drew ?_ | refine blk_alloc ?_ _)); refine blk_put (cs := #[.int .i64 ((rd_T98 l0_1 x39_2).f0), .int .i64 ((rd_T98 l0_1 x39_2).f1), .int .i64 0, .int .i64 0]) ?_ 2 _ rfl; (with_reducible repeat (first | refine blk_drewN ?_ _ | refine blk_drew ?_ | refine blk_alloc ?_ _)); refine blk_put (cs := #[.int .i64 ((rd_T98 l0_1 x39_2).f0), .int .i64 0, .int .i64 0, .int .i64 0]) ?_ 1 _ rfl; (with_reducible repeat (first | refine blk_drewN ?_ _ | refine blk_drew ?_ | refine blk_alloc ?_ _)); refine blk_put (cs := #[.int .i64 0, .int .i64 0, .int .i64 0, .int .i64 0]) ?_ 0 _ rfl; exact bx BK153.out⟩
 have n3_ : Aside0 (Below w.heap.size w ((((w28.setCell ⟨gb153, 0, none⟩ (.int .i64 ((rd_T98 l0_1 x39_2).f0))).setCell ⟨gb153, 1, none⟩ (.int .i64 ((rd_T98 l0_1 x39_2).f1))).setCell ⟨gb153, 2, none⟩ (.int .i64 ((rd_T98 l0_1 x39_2).f2))).setCell ⟨gb153, 3, none⟩ (.int .i64 ((rd_T98 l0_1 x39_2).f3)))) := ⟨lb⟩
 (try clear HO_9)
 (try clear BK147)
 (try clear BK153)
 (try clear HB)
 generalize ((((w28.setCell ⟨gb153, 0, none⟩ (.int .i64 ((rd_T98 l0_1 x39_2).f0))).setCell ⟨gb153, 1, none⟩ (.int .i64 ((rd_T98 l0_1 x39_2).f1))).setCell ⟨gb153, 2, none⟩ (.int .i64 ((rd_T98 l0_1 x39_2).f2))).setCell ⟨gb153, 3, none⟩ (.int .i64 ((rd_T98 l0_1 x39_2).f3))) = w31 at n0_ n1_ n2_ n3_ ⊢
 have HO_9 := n0_; have BK147 := n1_; have BK153 := n2_; have HB := n3_; clear n0_ n1_ n2_ n3_; have n_ := a4 (Kd.R_drew HO_9.out) (blk_drew BK147.out) (blk_drew BK153.out) (below_drew1 HB.out); clear HO_9 BK147 BK153 HB; obtain ⟨HO_9, BK147, BK153, HB⟩ := n_; obtain ⟨p154, q154, ad154, e154, hx154_0⟩ := wq (Kd.at_int HR1.out ((rd_T98 l0_1 x39_2).f0)); have hw154_0 := hx154_0; cases e154
 (try replace hx154_0 := hbc HB hx154_0); obtain ⟨p155, q155, ad155, e155, hx155_0⟩ := wq (Kd.at_int HR1.out ((rd_T98 l0_1 x39_2).f1)); have hw155_0 := hx155_0
 obtain rfl : ad154 = ad155 := (by injection e155)
 (try replace hx155_0 := hbc HB hx155_0)
 refine stC 20 [] (cX (bc0 BK153) (cX (bc1 BK153) (cX (bc2 BK153) (cX (bc3 BK153) (cX (hbc HB hw154_0) (cY (hbc HB hw155_0))))))) proof_reduced.tab11 proof_reduced.bits11 fun hHeld HT_ HW_ => ?_
 generalize w31.drew = w32 at HO_9 BK147 BK153 HB hx154_0 hx155_0 hHeld ⊢
 refine pv HT_ 0 43 ?_; refine pv HT_ 1 44 ?_; refine pv HT_ 2 45 ?_; refine pv HT_ 5 48 ?_; refine pv HT_ 6 49 ?_; refine pv HT_ 11 54 ?_; refine pv HT_ 12 55 ?_; refine tv HT_ HW_ hHeld 3 46 ?_; refine pv HT_ 4 47 ?_; refine tv HT_ HW_ hHeld 7 50 ?_; refine pv HT_ 8 51 ?_; refine tv HT_ HW_ hHeld 9 52 ?_; refine pv HT_ 10 53 ?_; refine tv HT_ HW_ hHeld 13 56 ?_; refine pv HT_ 14 57 ?_; refine tv HT_ HW_ hHeld 15 58 ?_; refine pv HT_ 16 59 ?_
 refine one_ (i := 17) (N := some 60) #[T, T, T, T, T, T, T, T, T, T, T, T, T, T, T, T, T, T, F, F] rfl rfl (one_of HT_.out (by kernel_rfl)) (by decide) (fun K hK => ?_)
 refine value_ (w1 := ?_) (v := ?_) (by rfl) rfl ?_ ?_
 rotate_left 2
 ·
  go_simp
  constructor
  ·
   rfl
  ·
   rfl
 refine hK.out _ _ ⟨(blk_cell (blk_alloc BK153.out _) 0).trans rfl, (blk_cell (blk_alloc BK153.out _) 1).trans rfl, (blk_cell (blk_alloc BK153.out _) 2).trans rfl, (blk_cell (blk_alloc BK153.out _) 3).trans rfl, (World.cell?_alloc_lt _ _ _ (World.block_lt_of_cell? _ _ ((hbc HB hw154_0)))).trans ((hbc HB hw154_0)), (World.cell?_alloc_lt _ _ _ (World.block_lt_of_cell? _ _ ((hbc HB hw155_0)))).trans ((hbc HB hw155_0))⟩ (fun hHeld => ?_)
 clear hK K
 refine norm_ (a' := ?_) ?_ ?_
 rotate_left
 ·
  show Act.put _ (some 60) _ = _
  simp only [Act.put, sA, sZ, sS, i64_w, i32_w]
  rfl
 refine one_ (i := 18) (N := some 61) #[T, T, T, T, T, T, T, T, T, T, T, T, T, T, T, T, T, T, T, F] rfl rfl (one_of HT_.out (by kernel_rfl)) (by decide) (fun K hK => ?_)
 refine Kd.R_append_step (Kd.int .i64) (w0 := w) w.heap.size (by rfl) (.tmp 43) (.tmp 60) 25 2 (.int .i64 0) 8 rfl Try.underlying25 info2 rfl (by decide) (by omega) u9 x9_2 (wrap64 ((wrap64 ((wrap64 (a2 * ((rd_T98 l0_1 x39_2).f3))) + (rd l1 ((rd_T98 l0_1 x39_2).f0)))) - (rd l1 ((rd_T98 l0_1 x39_2).f1)))) [.int .i64 (wrap64 ((wrap64 ((wrap64 (a2 * ((rd_T98 l0_1 x39_2).f3))) + (rd l1 ((rd_T98 l0_1 x39_2).f0)))) - (rd l1 ((rd_T98 l0_1 x39_2).f1))))] (fun _ => True) (fun _ => False) rfl rfl ?aP (fun _ hk => hk.elim) ?aF ?aO ?aB ?aS ?aL ?_
 (case aP => exact rfl)
 (case aB => exact lb)
 (case aF => exact (fun _ _ => trivial))
 (case aO => exact (rx HO_9.out))
 (case aS => exact (below_size lb))
 (case aL => have := LMc27.out; omega)
 intro v157 w33 ho hb hg hat; rw [← Ny156.out] at ho
 have n_ := a4 (blk_grown (bx BK147.out) hg (Kd.R_ne HO_9.out BK147.out (by decide))) (blk_grown (bx BK153.out) hg (Kd.R_ne HO_9.out BK153.out (by decide))) hb ho; clear BK147 BK153 HB HO_9; obtain ⟨BK147, BK153, HB, HO158⟩ := n_
 clear ho hb hg hat
 refine hK.out _ _ ⟨(blk_cell BK153.out 0).trans rfl, (blk_cell BK153.out 1).trans rfl, (blk_cell BK153.out 2).trans rfl, (blk_cell BK153.out 3).trans rfl, (hbc HB hw154_0), (hbc HB hw155_0)⟩ (fun hHeld => ?_)
 clear hK K
 refine norm_ (a' := ?_) ?_ ?_
 rotate_left
 ·
  show Act.put _ (some 61) _ = _
  simp only [Act.put, sA, sZ, sS, i64_w, i32_w]
  rfl
 refine pv HT_ 19 9 ?_
 refine done_ (done_of HT_.out (by kernel_rfl)) ?_
 try go_wp2
 go_roundg k2
 case measure => have := HK1.out; have := HK2.out; omega
 case rel => exact ⟨(y156), (wrap64 (x39_2 + 1)), sr, H', ⟨by have := HK1.out; have := HK2.out; omega⟩, ⟨rx HO158.out⟩, xb BK147, ⟨lb⟩⟩
theorem proof_reduced.ok (k : Nat) (a0_0 : Int) (A0_1 : Option Addr) (c0_1 : Nat) (l0_1 : List (S98)) (A1 : Option Addr) (c1 : Nat) (l1 : List Int) (a2 : Int) (r2 : List Int) (w : World) (hr0_1 : Kd.C k98 w A0_1 l0_1.length l0_1) (hc0_1 : l0_1.length ≤ c0_1) (hr1 : Kd.C (Kd.int .i64) w A1 l1.length l1) (hc1 : l1.length ≤ c1) (h : proof_reduced.f k a0_0 l0_1 l1 a2 = some (0, r2)) :
    Calls Try.prog 62 #[.agg #[.int .i64 a0_0, .slice A0_1 l0_1.length c0_1], .slice A1 l1.length c1, .int .i64 a2] w fun e w' => ∃ v1_ : Value, e = .returned (v1_) ∧ Kd.R (Kd.int .i64) 2 w' w.heap.size (fun _ => True) v1_ r2 ∧ Below w.heap.size w w' :=
 (proof_reduced.calls k a0_0 A0_1 c0_1 l0_1 A1 c1 l1 a2 0 r2 w hr0_1 hc0_1 hr1 hc1 h).mono fun e w' h_ => h_.good rfl
theorem proof_reduced.bad (k : Nat) (a0_0 : Int) (A0_1 : Option Addr) (c0_1 : Nat) (l0_1 : List (S98)) (A1 : Option Addr) (c1 : Nat) (l1 : List Int) (a2 : Int) (r1 : Int) (r2 : List Int) (w : World) (hr0_1 : Kd.C k98 w A0_1 l0_1.length l0_1) (hc0_1 : l0_1.length ≤ c0_1) (hr1 : Kd.C (Kd.int .i64) w A1 l1.length l1) (hc1 : l1.length ≤ c1) (h : proof_reduced.f k a0_0 l0_1 l1 a2 = some (r1, r2)) (hne_ : r1 ≠ 0) :
    Calls Try.prog 62 #[.agg #[.int .i64 a0_0, .slice A0_1 l0_1.length c0_1], .slice A1 l1.length c1, .int .i64 a2] w fun e w' => e = gave r1 ∧ Below w.heap.size w w' :=
 (proof_reduced.calls k a0_0 A0_1 c0_1 l0_1 A1 c1 l1 a2 r1 r2 w hr0_1 hc0_1 hr1 hc1 h).mono fun e w' h_ => h_.bad hne_

end Go.Proofs.Ytkdoihcjhccliaa.Q
