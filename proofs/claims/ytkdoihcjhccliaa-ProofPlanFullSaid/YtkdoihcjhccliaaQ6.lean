import Derived.Test.YtkdoihcjhccliaaQ0
import Derived.Test.YtkdoihcjhccliaaQ3
namespace Go.Proofs.Ytkdoihcjhccliaa.Q
open Go.RowKit Go.Proofs.YtkdoihcjhccliaaW.PrintWords Go.Proofs.YtkdoihcjhccliaaW.PrintLast Go.Proofs.YtkdoihcjhccliaaW.PrintMore
attribute [local go_sem] max2_int min2_int max_two min_two max_three min_three max_four min_four   -- for this text's walks alone
set_option linter.unusedVariables false
set_option linter.unusedSimpArgs false

/-! ### proof_carried: function 52 -/
def proof_carried.l0 : Nat → List Int → List Int → List (S98) → Int → Int → Option (Int × List Int)
  | 0, _, _, _, _, _ => none
  | k + 1, x1, x5, x19, x20, x21 => if x21 < x20 then (if 0 ≤ x21 then (if x21 < (x19.length : Int) then (if x21 < (x1.length : Int) then (if (rd x1 x21) ≥ 0 then (if (rd x1 x21) ≤ ((rd_T98 x19 x21).f2) then (if 0 ≤ ((rd_T98 x19 x21).f0) then (if ((rd_T98 x19 x21).f0) < (x5.length : Int) then ((some (x5.set (((rd_T98 x19 x21).f0) : Int).toNat (wrap64 ((rd x5 ((rd_T98 x19 x21).f0)) + (rd x1 x21))) : List Int)).bind fun y122 => (if 0 ≤ ((rd_T98 x19 x21).f1) then (if ((rd_T98 x19 x21).f1) < (x5.length : Int) then (proof_carried.l0 k x1 (y122.set (((rd_T98 x19 x21).f1) : Int).toNat (wrap64 ((rd y122 ((rd_T98 x19 x21).f1)) - (rd x1 x21)))) x19 x20 (wrap64 (x21 + 1))) else (none)) else (none))) else (none)) else (none)) else (some (221, ([] : List Int)))) else (some (221, ([] : List Int)))) else (none)) else (none)) else (none)) else (some (0, x5))
def proof_carried.f (k : Nat) (a0_0 : Int) (l0_1 : List (S98)) (l1 : List Int) : Option (Int × List Int) := if (l1.length : Int) = (l0_1.length : Int) then (if 0 ≤ a0_0 then (if (a0_0 : Int).toNat ≤ 35184372088832 then (proof_carried.l0 k l1 (List.replicate (a0_0 : Int).toNat 0) l0_1 (l0_1.length : Int) 0) else (none)) else (none)) else (some (221, ([] : List Int)))
def proof_carried.T6 : Bool × List (List Nat × List Nat) := (true, [([], []), ([], []), ([0, 1], [0, 1]), ([2], [2]), ([3], [3]), ([4], [4]), ([5], [5]), ([5], [5]), ([6, 7, 5], [5, 6, 7]), ([8, 5], [5, 8]), ([5], [5]), ([10, 5], [5, 10]), ([9, 11, 5], [5, 9, 11]), ([5, 12], [5, 12]), ([13, 5], [13])])
def proof_carried.B6 : List Nat := [0, 0, 3, 7, 15, 31, 63, 63, 255, 511, 63, 1087, 4095, 8191, 16383]
theorem proof_carried.tab6 : rtab .any (opsOf Try.f52 6) = proof_carried.T6 := by kernel_rfl
theorem proof_carried.bits6 : waitsOk proof_carried.T6.2 proof_carried.B6 = true := by kernel_rfl
def proof_carried.T7 : Bool × List (List Nat × List Nat) := (true, [([], []), ([], []), ([1], [1]), ([0, 2], [0, 2]), ([3], [3]), ([], []), ([], []), ([5, 6], [5, 6]), ([7], [7]), ([4, 8], [4, 8]), ([0, 2, 0, 1, 2, 3, 4, 5, 6, 7, 8, 9], [0, 2]), ([10, 9, 0, 1, 2, 3, 4, 5, 6, 7, 8, 9], [9, 10])])
def proof_carried.B7 : List Nat := [0, 0, 2, 7, 15, 0, 0, 96, 224, 511, 1023, 2047]
theorem proof_carried.tab7 : rtab .any (opsOf Try.f52 7) = proof_carried.T7 := by kernel_rfl
theorem proof_carried.bits7 : waitsOk proof_carried.T7.2 proof_carried.B7 = true := by kernel_rfl
def proof_carried.T8 : Bool × List (List Nat × List Nat) := (true, [([], []), ([], []), ([1], [1]), ([0, 2], [0, 2]), ([3], [3]), ([], []), ([], []), ([5, 6], [5, 6]), ([7], [7]), ([4, 8], [4, 8]), ([0, 2, 0, 1, 2, 3, 4, 5, 6, 7, 8, 9], [0, 2]), ([10, 9, 0, 1, 2, 3, 4, 5, 6, 7, 8, 9], [9, 10])])
def proof_carried.B8 : List Nat := [0, 0, 2, 7, 15, 0, 0, 96, 224, 511, 1023, 2047]
theorem proof_carried.tab8 : rtab .any (opsOf Try.f52 8) = proof_carried.T8 := by kernel_rfl
theorem proof_carried.bits8 : waitsOk proof_carried.T8.2 proof_carried.B8 = true := by kernel_rfl
set_option maxHeartbeats 8000000 in
set_option maxRecDepth 100000 in
theorem proof_carried.calls (k : Nat) (a0_0 : Int) (A0_1 : Option Addr) (c0_1 : Nat) (l0_1 : List (S98)) (A1 : Option Addr) (c1 : Nat) (l1 : List Int) (r1 : Int) (r2 : List Int) (w : World) (hr0_1 : Kd.C k98 w A0_1 l0_1.length l0_1) (hc0_1 : l0_1.length ≤ c0_1) (hr1 : Kd.C (Kd.int .i64) w A1 l1.length l1) (hc1 : l1.length ≤ c1) (h : proof_carried.f k a0_0 l0_1 l1 = some (r1, r2)) :
    Calls Try.prog 52 #[.agg #[.int .i64 a0_0, .slice A0_1 l0_1.length c0_1], .slice A1 l1.length c1] w fun e w' => Gave r1 (∃ v1_ : Value, e = .returned (v1_) ∧ Kd.R (Kd.int .i64) 2 w' w.heap.size (fun _ => True) v1_ r2 ∧ Below w.heap.size w w') (e = gave r1 ∧ Below w.heap.size w w') := by
 have hu24 := Try.underlying24; have hu98 := Try.underlying98; have HR0_1 := ak hr0_1; have HC0_1 := ak hc0_1; clear hr0_1 hc0_1; have HR1 := ak hr1; have HC1 := ak hc1; clear hr1 hc1; have HB := ak (Below.refl w.heap.size w); have H : (if (l1.length : Int) = (l0_1.length : Int) then (if 0 ≤ a0_0 then (if (a0_0 : Int).toNat ≤ 35184372088832 then (proof_carried.l0 k l1 (List.replicate (a0_0 : Int).toNat 0) l0_1 (l0_1.length : Int) 0) else (none)) else (none)) else (some (221, ([] : List Int)))) = some (r1, r2) := h; clear h
 by_cases c3 : (l1.length : Int) = (l0_1.length : Int)
 rotate_left
 ·
  rw [if_neg c3] at H; have c3b := bn2 c3; have c3b2 : (l1.length == l0_1.length) = false := by first | simpa using c3 | (simp at c3 ⊢; omega)
  simp only [Option.some.injEq, Prod.mk.injEq] at H
  obtain ⟨rfl, rfl⟩ := H
  go_enter Try.func52, Try.ntmps52
  go_wp2_with (first | ((with_reducible refine gate_dst (N := 2) rfl ?_); refine bxe 2 #[.int .i64 a0_0, .slice A0_1 l0_1.length c0_1] 24 ?_; intro gb112 hg w46 hbox hb; have n_ := a4 (bl hb) hbox (gw w hg) (gw w hg); clear HB; obtain ⟨HB, BK112, GW112, GE112⟩ := n_; clear hb hbox hg; have ⟨_, _, _, _⟩ := cf2 BK112) | ((with_reducible refine gate_callee (f := 51) rfl ?_); refine pl 14 Try.func51 #[.bool false, .int .i64 221] ?_; refine (proof_need.bad 221 _).mono ?_; rintro e w' ⟨rfl, rfl⟩; refine ⟨_, rfl, ?_⟩; (repeat (first | refine panic_then ?_ | refine panic_block ?_)); exact panic_body rfl (Gave.no da ⟨rfl, lb⟩)))
 rw [if_pos c3] at H; have c3b := be2 c3; have c3b2 : (l1.length == l0_1.length) = true := by first | simpa using c3 | (simp at c3 ⊢; omega)
 clear c3; have A4 := ak (show proof_need.f true 221 = some () from rfl); replace H := ife H; obtain ⟨c5b0, c5b1, H⟩ := H; replace H := ife H; obtain ⟨c6b0, c6b1, H⟩ := H; obtain ⟨y113, hy113⟩ : ∃ y_ : List Int, y_ = (List.replicate (a0_0 : Int).toNat 0) := ⟨_, rfl⟩; replace H : (proof_carried.l0 k l1 y113 l0_1 (l0_1.length : Int) 0) = some (r1, r2) := by first | (rw [hy113]; exact H) | exact H
 have Ny113 := ak hy113; clear hy113; have H' := ak H; clear H
 go_enter Try.func52, Try.ntmps52
 go_wp2_with (first | ((with_reducible refine gate_dst (N := 2) rfl ?_); refine bxe 2 #[.int .i64 a0_0, .slice A0_1 l0_1.length c0_1] 24 ?_; intro gb112 hg w7 hbox hb; have n_ := a4 (bl hb) hbox (gw w hg) (gw w hg); clear HB; obtain ⟨HB, BK112, GW112, GE112⟩ := n_; clear hb hbox hg; have ⟨_, _, _, _⟩ := cf2 BK112) | ((with_reducible refine gate_callee (f := 51) rfl ?_); refine gl 14 Try.func51 #[.bool true, .int .i64 221] ?_; (with_reducible refine (proof_need.calls true 221  _ A4.out).mono ?_); rintro e w' ⟨rfl, ⟨nd, rfl⟩⟩; refine ⟨_, rfl, ?_⟩) | ((with_reducible refine gate_dst (N := 17) rfl ?_); refine Kd.R_make (Kd.int .i64) _ 2 rfl (N := 17) rfl 25 _ _ rfl a0_0 rfl rfl Try.underlying25 (.int .i64 0) 8 info2 rfl (by decide) (by omega) 0 (ok := fun _ => True) (okp := fun _ => True) rfl (fun _ hk => hk) trivial (oda) (Nat.le_trans (Nat.mul_le_mul_right _ (oda : a0_0.toNat ≤ 35184372088832)) (by omega)) (Below.refl _ _) (Nat.le_refl _) ?_; intro v114 w9 ho10 hb hg_ hnew_; clear hg_ hnew_; (first | rw [← Ny113.out] at ho10 | (simp only [Int.reduceToNat] at ho10; rw [← Ny113.out] at ho10)); have n_ := a3 (Kd.R_lower ho10 (below_size lb)) (bo BK112 hb) (bl hb); clear BK112 HB; obtain ⟨HO115, BK112, HB⟩ := n_; clear hb ho10; have ⟨_, _, _, _⟩ := cf2 BK112))
 go_loopg [21] k (fun kq v21 w' => ∃ (x5_1 : List Int) (x21_1 : Int), v21 = .int .i64 x21_1 ∧ Aside0 (proof_carried.l0 kq l1 x5_1 l0_1 (l0_1.length : Int) x21_1 = some (r1, r2)) ∧ Aside0 (kq ≤ k) ∧ Aside0 (Kd.R (Kd.int .i64) 2 w' w.heap.size (fun _ => True) v114 x5_1) ∧ Aside0 (w'.heap[gb112]? = some (.cells #[.int .i64 a0_0, (.slice A0_1 l0_1.length c0_1)] 24 (0, 0))) ∧ Aside0 (Below w.heap.size w w'))
 case atStart => exact ⟨(y113), (0), sr, H', ⟨Nat.le_refl _⟩, ⟨rx HO115.out⟩, xb BK112, ⟨lb⟩⟩
 clear H'; obtain ⟨x5_1, x21_1, rfl, HA, HK1, HO_5, BK112, HB⟩ := hrel
 cases gk with
 | zero => exact absurd HA.out (by simp [proof_carried.l0])
 | succ k1 => ?_
 have H := HA.out; clear HA
 simp only [proof_carried.l0] at H
 by_cases c12 : x21_1 < (l0_1.length : Int)
 rotate_left
 ·
  rw [if_neg c12] at H; have c12b0 := decide_eq_false c12; clear c12
  simp only [Option.some.injEq, Prod.mk.injEq] at H
  obtain ⟨rfl, rfl⟩ := H
  go_wp2
  go_ret
  exact Gave.ok ⟨_, by first | rfl | (simp [errW_none, errW_some] <;> rfl) | (simp [*, errW_none, errW_some] <;> rfl), by exact rx HO_5.out, lb⟩
 rw [if_pos c12] at H; have c12b0 := decide_eq_true c12; clear c12; replace H := if3 H; obtain ⟨c13b0, c14b0, c15b0, H⟩ := H
 by_cases c16 : (rd l1 x21_1) ≥ 0
 rotate_left
 ·
  rw [if_neg c16] at H; have c16b0 := decide_eq_false c16; clear c16
  simp only [Option.some.injEq, Prod.mk.injEq] at H
  obtain ⟨rfl, rfl⟩ := H; obtain ⟨p116, q116, ad116, e116, hx116_0, hx116_1, hx116_2, hx116_3⟩ := wq (at_T98 HR0_1.out x21_1); cases e116
  (try replace hx116_0 := hbc HB hx116_0)
  (try replace hx116_1 := hbc HB hx116_1)
  (try replace hx116_2 := hbc HB hx116_2)
  (try replace hx116_3 := hbc HB hx116_3)
  try go_wp2_with (first | ((with_reducible refine gate_dst (N := 7) rfl ?_); refine bxe 7 #[.int .i64 0, .int .i64 0, .int .i64 0, .int .i64 0] 98 ?_; intro gb117 hg w41 hbox hb; have n_ := a8 (ro HO_5 hb) (bo BK112 hb) (bl hb) hbox (gw w hg) (gw w hg) (nl hg BK112) (nr hg BK112); clear HO_5 BK112 HB; obtain ⟨HO_5, BK112, HB, BK117, GW117, GE117, NB112_117, NB117_112⟩ := n_; clear hb hbox hg; have ⟨_, _⟩ := nn NB117_112; have ⟨_, _, _, _, _, _, _, _⟩ := cf4 BK117))
  have n0_ : Aside0 (Kd.R (Kd.int .i64) 2 ((((w41.setCell ⟨gb117, 0, none⟩ (.int .i64 ((rd_T98 l0_1 x21_1).f0))).setCell ⟨gb117, 1, none⟩ (.int .i64 ((rd_T98 l0_1 x21_1).f1))).setCell ⟨gb117, 2, none⟩ (.int .i64 ((rd_T98 l0_1 x21_1).f2))).setCell ⟨gb117, 3, none⟩ (.int .i64 ((rd_T98 l0_1 x21_1).f3))) w.heap.size (fun _ => True) v114 x5_1) := ⟨by exact rx (Kd.R_mono (Kd.R_far (p := ⟨gb117, 3, none⟩) (Kd.R_far (p := ⟨gb117, 2, none⟩) (Kd.R_far (p := ⟨gb117, 1, none⟩) (Kd.R_far (p := ⟨gb117, 0, none⟩) (Kd.R_types HO_5.out BK117.out (by decide)) (fun _ hk => hk.2) (.int .i64 ((rd_T98 l0_1 x21_1).f0))) (fun _ hk => hk.2) (.int .i64 ((rd_T98 l0_1 x21_1).f1))) (fun _ hk => hk.2) (.int .i64 ((rd_T98 l0_1 x21_1).f2))) (fun _ hk => hk.2) (.int .i64 ((rd_T98 l0_1 x21_1).f3))) (fun _ hk => trivial))⟩
  have n1_ : Aside0 (((((w41.setCell ⟨gb117, 0, none⟩ (.int .i64 ((rd_T98 l0_1 x21_1).f0))).setCell ⟨gb117, 1, none⟩ (.int .i64 ((rd_T98 l0_1 x21_1).f1))).setCell ⟨gb117, 2, none⟩ (.int .i64 ((rd_T98 l0_1 x21_1).f2))).setCell ⟨gb117, 3, none⟩ (.int .i64 ((rd_T98 l0_1 x21_1).f3))).heap[gb112]? = some (.cells #[.int .i64 a0_0, .slice (some ad116) l0_1.length c0_1] 24 (0, 0))) := ⟨by (with_reducible repeat (first | refine blk_drewN ?_ _ | refine blk_drew ?_ | refine blk_alloc ?_ _)); refine blk_far ?_ NB112_117.out _; (with_reducible repeat (first | refine blk_drewN ?_ _ | refine blk_drew ?_ | refine blk_alloc ?_ _)); refine blk_far ?_ NB112_117.out _; (with_reducible repeat (first | refine blk_drewN ?_ _ | refine blk_drew ?_ | refine blk_alloc ?_ _)); refine blk_far ?_ NB112_117.out _; (with_reducible repeat (first | refine blk_drewN ?_ _ | refine blk_drew ?_ | refine blk_alloc ?_ _)); refine blk_far ?_ NB112_117.out _; exact bx BK112.out⟩
  have n2_ : Aside0 (((((w41.setCell ⟨gb117, 0, none⟩ (.int .i64 ((rd_T98 l0_1 x21_1).f0))).setCell ⟨gb117, 1, none⟩ (.int .i64 ((rd_T98 l0_1 x21_1).f1))).setCell ⟨gb117, 2, none⟩ (.int .i64 ((rd_T98 l0_1 x21_1).f2))).setCell ⟨gb117, 3, none⟩ (.int .i64 ((rd_T98 l0_1 x21_1).f3))).heap[gb117]? = some (.cells #[.int .i64 ((rd_T98 l0_1 x21_1).f0), .int .i64 ((rd_T98 l0_1 x21_1).f1), .int .i64 ((rd_T98 l0_1 x21_1).f2), .int .i64 ((rd_T98 l0_1 x21_1).f3)] 98 (0, 0))) := ⟨by (with_reducible repeat (first | refine blk_drewN ?_ _ | refine blk_drew ?_ | refine blk_alloc ?_ _)); refine blk_put (cs := #[.int .i64 ((rd_T98 l0_1 x21_1).f0), .int .i64 ((rd_T98 l0_1 x21_1).f1), .int .i64 ((rd_T98 l0_1 x21_1).f2), .int .i64 0]) ?_ 3 _ rfl; (with_reducible repeat (first | refine blk_drewN ?_ _ | refine blk_drew ?_ | refine blk_alloc ?_ _)); refine blk_put (cs := #[.int .i64 ((rd_T98 l0_1 x21_1).f0), .int .i64 ((rd_T98 l0_1 x21_1).f1), .int .i64 0, .int .i64 0]) ?_ 2 _ rfl; (with_reducible repeat (first | refine blk_drewN ?_ _ | refine blk_drew ?_ | refine blk_alloc ?_ _)); refine blk_put (cs := #[.int .i64 ((rd_T98 l0_1 x21_1).f0), .int .i64 0, .int .i64 0, .int .i64 0]) ?_ 1 _ rfl; (with_reducible repeat (first | refine blk_drewN ?_ _ | refine blk_drew ?_ | refine blk_alloc ?_ _)); refine blk_put (cs := #[.int .i64 0, .int .i64 0, .int .i64 0, .int .i64 0]) ?_ 0 _ rfl; exact bx BK117.out⟩
  have n3_ : Aside0 (Below w.heap.size w ((((w41.setCell ⟨gb117, 0, none⟩ (.int .i64 ((rd_T98 l0_1 x21_1).f0))).setCell ⟨gb117, 1, none⟩ (.int .i64 ((rd_T98 l0_1 x21_1).f1))).setCell ⟨gb117, 2, none⟩ (.int .i64 ((rd_T98 l0_1 x21_1).f2))).setCell ⟨gb117, 3, none⟩ (.int .i64 ((rd_T98 l0_1 x21_1).f3)))) := ⟨lb⟩
  (try clear HO_5)
  (try clear BK112)
  (try clear BK117)
  (try clear HB)
  generalize ((((w41.setCell ⟨gb117, 0, none⟩ (.int .i64 ((rd_T98 l0_1 x21_1).f0))).setCell ⟨gb117, 1, none⟩ (.int .i64 ((rd_T98 l0_1 x21_1).f1))).setCell ⟨gb117, 2, none⟩ (.int .i64 ((rd_T98 l0_1 x21_1).f2))).setCell ⟨gb117, 3, none⟩ (.int .i64 ((rd_T98 l0_1 x21_1).f3))) = w44 at n0_ n1_ n2_ n3_ ⊢
  have HO_5 := n0_; have BK112 := n1_; have BK117 := n2_; have HB := n3_; clear n0_ n1_ n2_ n3_; have n_ := a4 (Kd.R_drew HO_5.out) (blk_drew BK112.out) (blk_drew BK117.out) (below_drew1 HB.out); clear HO_5 BK112 BK117 HB; obtain ⟨HO_5, BK112, BK117, HB⟩ := n_; obtain ⟨p118, q118, ad118, e118, hx118_0⟩ := wq (Kd.at_int HR1.out x21_1); have hw118_0 := hx118_0; cases e118
  (try replace hx118_0 := hbc HB hx118_0)
  refine stC 15 [] (cY ((hbc HB hw118_0))) proof_carried.tab6 proof_carried.bits6 fun hHeld HT_ HW_ => ?_
  generalize w44.drew = w45 at HO_5 BK112 BK117 HB hx118_0 hHeld ⊢
  refine pv HT_ 0 26 ?_; refine pv HT_ 1 27 ?_; refine pv HT_ 2 28 ?_; refine tv HT_ HW_ hHeld 3 29 ?_; refine pv HT_ 4 30 ?_; refine pv HT_ 5 31 ?_; refine pu HT_ 6 32 ?_; refine pu HT_ 7 33 ?_; refine pu HT_ 8 34 ?_; refine pu HT_ 9 35 ?_; refine pu HT_ 10 36 ?_; refine pu HT_ 11 37 ?_; refine pu HT_ 12 38 ?_; refine pv HT_ 13 39 ?_
  refine one_ (i := 14) (N := some 40) #[T, T, T, T, T, T, T, T, T, T, T, T, T, T, T] rfl rfl (one_of HT_.out (by kernel_rfl)) (by decide) (fun K hK => ?_)
  refine panics_ Try.func51 (by kernel_rfl) rfl #[.bool false, .int .i64 221] (by rfl) rfl rfl (by (try simp only [List.map_toArray, List.map_cons, List.map_nil]); first | done | rfl | (simp only [List.length_drop, List.length_take]; rfl)) ?_
  refine (proof_need.bad 221 _).mono ?_
  rintro e w' ⟨rfl, rfl⟩
  refine ⟨_, rfl, ?_⟩
  (repeat (first | refine panic_then ?_ | refine panic_block ?_))
  exact panic_body rfl (Gave.no da ⟨rfl, lb⟩)
  try go_wp2
 rw [if_pos c16] at H; have c16b0 := decide_eq_true c16; clear c16
 by_cases c17 : (rd l1 x21_1) ≤ ((rd_T98 l0_1 x21_1).f2)
 rotate_left
 ·
  rw [if_neg c17] at H; have c17b0 := decide_eq_false c17; clear c17
  simp only [Option.some.injEq, Prod.mk.injEq] at H
  obtain ⟨rfl, rfl⟩ := H; obtain ⟨p116, q116, ad116, e116, hx116_0, hx116_1, hx116_2, hx116_3⟩ := wq (at_T98 HR0_1.out x21_1); cases e116
  (try replace hx116_0 := hbc HB hx116_0)
  (try replace hx116_1 := hbc HB hx116_1)
  (try replace hx116_2 := hbc HB hx116_2)
  (try replace hx116_3 := hbc HB hx116_3)
  try go_wp2_with (first | ((with_reducible refine gate_dst (N := 7) rfl ?_); refine bxe 7 #[.int .i64 0, .int .i64 0, .int .i64 0, .int .i64 0] 98 ?_; intro gb117 hg w36 hbox hb; have n_ := a8 (ro HO_5 hb) (bo BK112 hb) (bl hb) hbox (gw w hg) (gw w hg) (nl hg BK112) (nr hg BK112); clear HO_5 BK112 HB; obtain ⟨HO_5, BK112, HB, BK117, GW117, GE117, NB112_117, NB117_112⟩ := n_; clear hb hbox hg; have ⟨_, _⟩ := nn NB117_112; have ⟨_, _, _, _, _, _, _, _⟩ := cf4 BK117))
  have n0_ : Aside0 (Kd.R (Kd.int .i64) 2 ((((w36.setCell ⟨gb117, 0, none⟩ (.int .i64 ((rd_T98 l0_1 x21_1).f0))).setCell ⟨gb117, 1, none⟩ (.int .i64 ((rd_T98 l0_1 x21_1).f1))).setCell ⟨gb117, 2, none⟩ (.int .i64 ((rd_T98 l0_1 x21_1).f2))).setCell ⟨gb117, 3, none⟩ (.int .i64 ((rd_T98 l0_1 x21_1).f3))) w.heap.size (fun _ => True) v114 x5_1) := ⟨by exact rx (Kd.R_mono (Kd.R_far (p := ⟨gb117, 3, none⟩) (Kd.R_far (p := ⟨gb117, 2, none⟩) (Kd.R_far (p := ⟨gb117, 1, none⟩) (Kd.R_far (p := ⟨gb117, 0, none⟩) (Kd.R_types HO_5.out BK117.out (by decide)) (fun _ hk => hk.2) (.int .i64 ((rd_T98 l0_1 x21_1).f0))) (fun _ hk => hk.2) (.int .i64 ((rd_T98 l0_1 x21_1).f1))) (fun _ hk => hk.2) (.int .i64 ((rd_T98 l0_1 x21_1).f2))) (fun _ hk => hk.2) (.int .i64 ((rd_T98 l0_1 x21_1).f3))) (fun _ hk => trivial))⟩
  have n1_ : Aside0 (((((w36.setCell ⟨gb117, 0, none⟩ (.int .i64 ((rd_T98 l0_1 x21_1).f0))).setCell ⟨gb117, 1, none⟩ (.int .i64 ((rd_T98 l0_1 x21_1).f1))).setCell ⟨gb117, 2, none⟩ (.int .i64 ((rd_T98 l0_1 x21_1).f2))).setCell ⟨gb117, 3, none⟩ (.int .i64 ((rd_T98 l0_1 x21_1).f3))).heap[gb112]? = some (.cells #[.int .i64 a0_0, .slice (some ad116) l0_1.length c0_1] 24 (0, 0))) := ⟨by (with_reducible repeat (first | refine blk_drewN ?_ _ | refine blk_drew ?_ | refine blk_alloc ?_ _)); refine blk_far ?_ NB112_117.out _; (with_reducible repeat (first | refine blk_drewN ?_ _ | refine blk_drew ?_ | refine blk_alloc ?_ _)); refine blk_far ?_ NB112_117.out _; (with_reducible repeat (first | refine blk_drewN ?_ _ | refine blk_drew ?_ | refine blk_alloc ?_ _)); refine blk_far ?_ NB112_117.out _; (with_reducible repeat (first | refine blk_drewN ?_ _ | refine blk_drew ?_ | refine blk_alloc ?_ _)); refine blk_far ?_ NB112_117.out _; exact bx BK112.out⟩
  have n2_ : Aside0 (((((w36.setCell ⟨gb117, 0, none⟩ (.int .i64 ((rd_T98 l0_1 x21_1).f0))).setCell ⟨gb117, 1, none⟩ (.int .i64 ((rd_T98 l0_1 x21_1).f1))).setCell ⟨gb117, 2, none⟩ (.int .i64 ((rd_T98 l0_1 x21_1).f2))).setCell ⟨gb117, 3, none⟩ (.int .i64 ((rd_T98 l0_1 x21_1).f3))).heap[gb117]? = some (.cells #[.int .i64 ((rd_T98 l0_1 x21_1).f0), .int .i64 ((rd_T98 l0_1 x21_1).f1), .int .i64 ((rd_T98 l0_1 x21_1).f2), .int .i64 ((rd_T98 l0_1 x21_1).f3)] 98 (0, 0))) := ⟨by (with_reducible repeat (first | refine blk_drewN ?_ _ | refine blk_drew ?_ | refine blk_alloc ?_ _)); refine blk_put (cs := #[.int .i64 ((rd_T98 l0_1 x21_1).f0), .int .i64 ((rd_T98 l0_1 x21_1).f1), .int .i64 ((rd_T98 l0_1 x21_1).f2), .int .i64 0]) ?_ 3 _ rfl; (with_reducible repeat (first | refine blk_drewN ?_ _ | refine blk_drew ?_ | refine blk_alloc ?_ _)); refine blk_put (cs := #[.int .i64 ((rd_T98 l0_1 x21_1).f0), .int .i64 ((rd_T98 l0_1 x21_1).f1), .int .i64 0, .int .i64 0]) ?_ 2 _ rfl; (with_reducible repeat (first | refine blk_drewN ?_ _ | refine blk_drew ?_ | refine blk_alloc ?_ _)); refine blk_put (cs := #[.int .i64 ((rd_T98 l0_1 x21_1).f0), .int .i64 0, .int .i64 0, .int .i64 0]) ?_ 1 _ rfl; (with_reducible repeat (first | refine blk_drewN ?_ _ | refine blk_drew ?_ | refine blk_alloc ?_ _)); refine blk_put (cs := #[.int .i64 0, .int .i64 0, .int .i64 0, .int .i64 0]) ?_ 0 _ rfl; exact bx BK117.out⟩
  have n3_ : Aside0 (Below w.heap.size w ((((w36.setCell ⟨gb117, 0, none⟩ (.int .i64 ((rd_T98 l0_1 x21_1).f0))).setCell ⟨gb117, 1, none⟩ (.int .i64 ((rd_T98 l0_1 x21_1).f1))).setCell ⟨gb117, 2, none⟩ (.int .i64 ((rd_T98 l0_1 x21_1).f2))).setCell ⟨gb117, 3, none⟩ (.int .i64 ((rd_T98 l0_1 x21_1).f3)))) := ⟨lb⟩
  (try clear HO_5)
  (try clear BK112)
  (try clear BK117)
  (try clear HB)
  generalize ((((w36.setCell ⟨gb117, 0, none⟩ (.int .i64 ((rd_T98 l0_1 x21_1).f0))).setCell ⟨gb117, 1, none⟩ (.int .i64 ((rd_T98 l0_1 x21_1).f1))).setCell ⟨gb117, 2, none⟩ (.int .i64 ((rd_T98 l0_1 x21_1).f2))).setCell ⟨gb117, 3, none⟩ (.int .i64 ((rd_T98 l0_1 x21_1).f3))) = w39 at n0_ n1_ n2_ n3_ ⊢
  have HO_5 := n0_; have BK112 := n1_; have BK117 := n2_; have HB := n3_; clear n0_ n1_ n2_ n3_; have n_ := a4 (Kd.R_drew HO_5.out) (blk_drew BK112.out) (blk_drew BK117.out) (below_drew1 HB.out); clear HO_5 BK112 BK117 HB; obtain ⟨HO_5, BK112, BK117, HB⟩ := n_; obtain ⟨p118, q118, ad118, e118, hx118_0⟩ := wq (Kd.at_int HR1.out x21_1); have hw118_0 := hx118_0; cases e118
  (try replace hx118_0 := hbc HB hx118_0); obtain ⟨p119, q119, ad119, e119, hx119_0⟩ := wq (Kd.at_int HR1.out x21_1); have hw119_0 := hx119_0
  obtain rfl : ad118 = ad119 := (by injection e119)
  (try replace hx119_0 := hbc HB hx119_0)
  refine stC 15 [] (cX (bc0 BK117) (cX (bc1 BK117) (cX (bc2 BK117) (cX (bc3 BK117) (cX (hbc HB hw118_0) (cY (hbc HB hw119_0))))))) proof_carried.tab6 proof_carried.bits6 fun hHeld HT_ HW_ => ?_
  generalize w39.drew = w40 at HO_5 BK112 BK117 HB hx118_0 hx119_0 hHeld ⊢
  refine pv HT_ 0 26 ?_; refine pv HT_ 1 27 ?_; refine pv HT_ 2 28 ?_; refine tv HT_ HW_ hHeld 3 29 ?_; refine pv HT_ 4 30 ?_; refine pv HT_ 5 31 ?_; refine pv HT_ 6 32 ?_; refine pv HT_ 7 33 ?_; refine pv HT_ 8 34 ?_; refine pv HT_ 10 36 ?_; refine tv HT_ HW_ hHeld 9 35 ?_; refine tv HT_ HW_ hHeld 11 37 ?_; refine pv HT_ 12 38 ?_; refine pv HT_ 13 39 ?_
  refine one_ (i := 14) (N := some 40) #[T, T, T, T, T, T, T, T, T, T, T, T, T, T, T] rfl rfl (one_of HT_.out (by kernel_rfl)) (by decide) (fun K hK => ?_)
  refine panics_ Try.func51 (by kernel_rfl) rfl #[.bool false, .int .i64 221] (by rfl) rfl rfl (by (try simp only [List.map_toArray, List.map_cons, List.map_nil]); first | done | rfl | (simp only [List.length_drop, List.length_take]; rfl)) ?_
  refine (proof_need.bad 221 _).mono ?_
  rintro e w' ⟨rfl, rfl⟩
  refine ⟨_, rfl, ?_⟩
  (repeat (first | refine panic_then ?_ | refine panic_block ?_))
  exact panic_body rfl (Gave.no da ⟨rfl, lb⟩)
  try go_wp2
 rw [if_pos c17] at H; have c17b0 := decide_eq_true c17; clear c17; have A18 := ak (show proof_need.f true 221 = some () from rfl); replace H := if2 H; obtain ⟨c19b0, c20b0, H⟩ := H; obtain ⟨y122, hy122⟩ : ∃ y_ : List Int, y_ = (x5_1.set (((rd_T98 l0_1 x21_1).f0) : Int).toNat (wrap64 ((rd x5_1 ((rd_T98 l0_1 x21_1).f0)) + (rd l1 x21_1)))) := ⟨_, rfl⟩; replace H : (if 0 ≤ ((rd_T98 l0_1 x21_1).f1) then (if ((rd_T98 l0_1 x21_1).f1) < (x5_1.length : Int) then (proof_carried.l0 k1 l1 (y122.set (((rd_T98 l0_1 x21_1).f1) : Int).toNat (wrap64 ((rd y122 ((rd_T98 l0_1 x21_1).f1)) - (rd l1 x21_1)))) l0_1 (l0_1.length : Int) (wrap64 (x21_1 + 1))) else (none)) else (none)) = some (r1, r2) := by first | (rw [hy122]; exact H) | exact H
 have Ny122 := ak hy122; clear hy122; replace H := if2 H; obtain ⟨c22b0, c23b0, H⟩ := H; obtain ⟨y125, hy125⟩ : ∃ y_ : List Int, y_ = (y122.set (((rd_T98 l0_1 x21_1).f1) : Int).toNat (wrap64 ((rd y122 ((rd_T98 l0_1 x21_1).f1)) - (rd l1 x21_1)))) := ⟨_, rfl⟩; replace H : (proof_carried.l0 k1 l1 y125 l0_1 (l0_1.length : Int) (wrap64 (x21_1 + 1))) = some (r1, r2) := by first | (rw [hy125]; exact H) | exact H
 have Ny125 := ak hy125; clear hy125; have H' := ak H; clear H; obtain ⟨p116, q116, ad116, e116, hx116_0, hx116_1, hx116_2, hx116_3⟩ := wq (at_T98 HR0_1.out x21_1); cases e116
 (try replace hx116_0 := hbc HB hx116_0)
 (try replace hx116_1 := hbc HB hx116_1)
 (try replace hx116_2 := hbc HB hx116_2)
 (try replace hx116_3 := hbc HB hx116_3)
 try go_wp2_with (first | ((with_reducible refine gate_dst (N := 7) rfl ?_); refine bxe 7 #[.int .i64 0, .int .i64 0, .int .i64 0, .int .i64 0] 98 ?_; intro gb117 hg w25 hbox hb; have n_ := a8 (ro HO_5 hb) (bo BK112 hb) (bl hb) hbox (gw w hg) (gw w hg) (nl hg BK112) (nr hg BK112); clear HO_5 BK112 HB; obtain ⟨HO_5, BK112, HB, BK117, GW117, GE117, NB112_117, NB117_112⟩ := n_; clear hb hbox hg; have ⟨_, _⟩ := nn NB117_112; have ⟨_, _, _, _, _, _, _, _⟩ := cf4 BK117))
 have n0_ : Aside0 (Kd.R (Kd.int .i64) 2 ((((w25.setCell ⟨gb117, 0, none⟩ (.int .i64 ((rd_T98 l0_1 x21_1).f0))).setCell ⟨gb117, 1, none⟩ (.int .i64 ((rd_T98 l0_1 x21_1).f1))).setCell ⟨gb117, 2, none⟩ (.int .i64 ((rd_T98 l0_1 x21_1).f2))).setCell ⟨gb117, 3, none⟩ (.int .i64 ((rd_T98 l0_1 x21_1).f3))) w.heap.size (fun _ => True) v114 x5_1) := ⟨by exact rx (Kd.R_mono (Kd.R_far (p := ⟨gb117, 3, none⟩) (Kd.R_far (p := ⟨gb117, 2, none⟩) (Kd.R_far (p := ⟨gb117, 1, none⟩) (Kd.R_far (p := ⟨gb117, 0, none⟩) (Kd.R_types HO_5.out BK117.out (by decide)) (fun _ hk => hk.2) (.int .i64 ((rd_T98 l0_1 x21_1).f0))) (fun _ hk => hk.2) (.int .i64 ((rd_T98 l0_1 x21_1).f1))) (fun _ hk => hk.2) (.int .i64 ((rd_T98 l0_1 x21_1).f2))) (fun _ hk => hk.2) (.int .i64 ((rd_T98 l0_1 x21_1).f3))) (fun _ hk => trivial))⟩
 have n1_ : Aside0 (((((w25.setCell ⟨gb117, 0, none⟩ (.int .i64 ((rd_T98 l0_1 x21_1).f0))).setCell ⟨gb117, 1, none⟩ (.int .i64 ((rd_T98 l0_1 x21_1).f1))).setCell ⟨gb117, 2, none⟩ (.int .i64 ((rd_T98 l0_1 x21_1).f2))).setCell ⟨gb117, 3, none⟩ (.int .i64 ((rd_T98 l0_1 x21_1).f3))).heap[gb112]? = some (.cells #[.int .i64 a0_0, .slice (some ad116) l0_1.length c0_1] 24 (0, 0))) := ⟨by (with_reducible repeat (first | refine blk_drewN ?_ _ | refine blk_drew ?_ | refine blk_alloc ?_ _)); refine blk_far ?_ NB112_117.out _; (with_reducible repeat (first | refine blk_drewN ?_ _ | refine blk_drew ?_ | refine blk_alloc ?_ _)); refine blk_far ?_ NB112_117.out _; (with_reducible repeat (first | refine blk_drewN ?_ _ | refine blk_drew ?_ | refine blk_alloc ?_ _)); refine blk_far ?_ NB112_117.out _; (with_reducible repeat (first | refine blk_drewN ?_ _ | refine blk_drew ?_ | refine blk_alloc ?_ _)); refine blk_far ?_ NB112_117.out _; exact bx BK112.out⟩
 have n2_ : Aside0 (((((w25.setCell ⟨gb117, 0, none⟩ (.int .i64 ((rd_T98 l0_1 x21_1).f0))).setCell ⟨gb117, 1, none⟩ (.int .i64 ((rd_T98 l0_1 x21_1).f1))).setCell ⟨gb117, 2, none⟩ (.int .i64 ((rd_T98 l0_1 x21_1).f2))).setCell ⟨gb117, 3, none⟩ (.int .i64 ((rd_T98 l0_1 x21_1).f3))).heap[gb117]? = some (.cells #[.int .i64 ((rd_T98 l0_1 x21_1).f0), .int .i64 ((rd_T98 l0_1 x21_1).f1), .int .i64 ((rd_T98 l0_1 x21_1).f2), .int .i64 ((rd_T98 l0_1 x21_1).f3)] 98 (0, 0))) := ⟨by (with_reducible repeat (first | refine blk_drewN ?_ _ | refine blk_drew ?_ | refine blk_alloc ?_ _)); refine blk_put (cs := #[.int .i64 ((rd_T98 l0_1 x21_1).f0), .int .i64 ((rd_T98 l0_1 x21_1).f1), .int .i64 ((rd_T98 l0_1 x21_1).f2), .int .i64 0]) ?_ 3 _ rfl; (with_reducible repeat (first | refine blk_drewN ?_ _ | refine blk_drew ?_ | refine blk_alloc ?_ _)); refine blk_put (cs := #[.int .i64 ((rd_T98 l0_1 x21_1).f0), .int .i64 ((rd_T98 l0_1 x21_1).f1), .int .i64 0, .int .i64 0]) ?_ 2 _ rfl; (with_reducible repeat (first | refine blk_drewN ?_ _ | refine blk_drew ?_ | refine blk_alloc ?_ _)); refine blk_put (cs := #[.int .i64 ((rd_T98 l0_1 x21_1).f0), .int .i64 0, .int .i64 0, .int .i64 0]) ?_ 1 _ rfl; (with_reducible repeat (first | refine blk_drewN ?_ _ | refine blk_drew ?_ | refine blk_alloc ?_ _)); refine blk_put (cs := #[.int .i64 0, .int .i64 0, .int .i64 0, .int .i64 0]) ?_ 0 _ rfl; exact bx BK117.out⟩
 have n3_ : Aside0 (Below w.heap.size w ((((w25.setCell ⟨gb117, 0, none⟩ (.int .i64 ((rd_T98 l0_1 x21_1).f0))).setCell ⟨gb117, 1, none⟩ (.int .i64 ((rd_T98 l0_1 x21_1).f1))).setCell ⟨gb117, 2, none⟩ (.int .i64 ((rd_T98 l0_1 x21_1).f2))).setCell ⟨gb117, 3, none⟩ (.int .i64 ((rd_T98 l0_1 x21_1).f3)))) := ⟨lb⟩
 (try clear HO_5)
 (try clear BK112)
 (try clear BK117)
 (try clear HB)
 generalize ((((w25.setCell ⟨gb117, 0, none⟩ (.int .i64 ((rd_T98 l0_1 x21_1).f0))).setCell ⟨gb117, 1, none⟩ (.int .i64 ((rd_T98 l0_1 x21_1).f1))).setCell ⟨gb117, 2, none⟩ (.int .i64 ((rd_T98 l0_1 x21_1).f2))).setCell ⟨gb117, 3, none⟩ (.int .i64 ((rd_T98 l0_1 x21_1).f3))) = w28 at n0_ n1_ n2_ n3_ ⊢
 have HO_5 := n0_; have BK112 := n1_; have BK117 := n2_; have HB := n3_; clear n0_ n1_ n2_ n3_; have n_ := a4 (Kd.R_drew HO_5.out) (blk_drew BK112.out) (blk_drew BK117.out) (below_drew1 HB.out); clear HO_5 BK112 BK117 HB; obtain ⟨HO_5, BK112, BK117, HB⟩ := n_; obtain ⟨p118, q118, ad118, e118, hx118_0⟩ := wq (Kd.at_int HR1.out x21_1); have hw118_0 := hx118_0; cases e118
 (try replace hx118_0 := hbc HB hx118_0); obtain ⟨p119, q119, ad119, e119, hx119_0⟩ := wq (Kd.at_int HR1.out x21_1); have hw119_0 := hx119_0
 obtain rfl : ad118 = ad119 := (by injection e119)
 (try replace hx119_0 := hbc HB hx119_0)
 refine stC 15 [] (cX (bc0 BK117) (cX (bc1 BK117) (cX (bc2 BK117) (cX (bc3 BK117) (cX (hbc HB hw118_0) (cY (hbc HB hw119_0))))))) proof_carried.tab6 proof_carried.bits6 fun hHeld HT_ HW_ => ?_
 generalize w28.drew = w29 at HO_5 BK112 BK117 HB hx118_0 hx119_0 hHeld ⊢
 refine pv HT_ 0 26 ?_; refine pv HT_ 1 27 ?_; refine pv HT_ 2 28 ?_; refine tv HT_ HW_ hHeld 3 29 ?_; refine pv HT_ 4 30 ?_; refine pv HT_ 5 31 ?_; refine pv HT_ 6 32 ?_; refine pv HT_ 7 33 ?_; refine pv HT_ 8 34 ?_; refine pv HT_ 10 36 ?_; refine tv HT_ HW_ hHeld 9 35 ?_; refine tv HT_ HW_ hHeld 11 37 ?_; refine pv HT_ 12 38 ?_; refine pv HT_ 13 39 ?_
 refine one_ (i := 14) (N := some 40) #[T, T, T, T, T, T, T, T, T, T, T, T, T, T, T] rfl rfl (one_of HT_.out (by kernel_rfl)) (by decide) (fun K hK => ?_)
 refine goes_ Try.func51 (by kernel_rfl) rfl #[.bool true, .int .i64 221] (by rfl) rfl rfl (by (try simp only [List.map_toArray, List.map_cons, List.map_nil]); first | done | rfl | (simp only [List.length_drop, List.length_take]; rfl)) ?_
 with_reducible refine (proof_need.calls true 221  _ A18.out).mono ?_
 rintro e w' ⟨rfl, ⟨nd, rfl⟩⟩
 refine ⟨_, rfl, ?_⟩
 refine hK.out _ _ ⟨(blk_cell BK117.out 0).trans rfl, (blk_cell BK117.out 1).trans rfl, (blk_cell BK117.out 2).trans rfl, (blk_cell BK117.out 3).trans rfl, (hbc HB hw118_0), (hbc HB hw119_0)⟩ (fun hHeld => ?_)
 clear hK K
 refine norm_ (a' := ?_) ?_ ?_
 rotate_left
 ·
  show Act.put _ (some 40) _ = _
  simp only [Act.put, sA, sZ, sS, i64_w, i32_w]
  rfl
 refine done_ (done_of HT_.out (by kernel_rfl)) ?_
 try go_wp2
 (try (rw [drewN_self w29]; generalize hq_ : World.drewN w29 _ = w29; have n0_ : Aside0 (Kd.R (Kd.int .i64) 2 w29 w.heap.size (fun _ => True) v114 x5_1) := ⟨by rw [← hq_]; exact (rx HO_5.out)⟩; have n1_ : Aside0 (w29.heap[gb112]? = some (.cells #[.int .i64 a0_0, .slice (some ad116) l0_1.length c0_1] 24 (0, 0))) := ⟨by rw [← hq_]; exact (bx BK112.out)⟩; have n2_ : Aside0 (w29.heap[gb117]? = some (.cells #[.int .i64 ((rd_T98 l0_1 x21_1).f0), .int .i64 ((rd_T98 l0_1 x21_1).f1), .int .i64 ((rd_T98 l0_1 x21_1).f2), .int .i64 ((rd_T98 l0_1 x21_1).f3)] 98 (0, 0))) := ⟨by rw [← hq_]; exact (bx BK117.out)⟩; have n3_ : Aside0 (Below w.heap.size w w29) := ⟨by rw [← hq_]; exact lb⟩; clear HO_5 BK112 BK117 HB hq_; have HO_5 := n0_; have BK112 := n1_; have BK117 := n2_; have HB := n3_; clear n0_ n1_ n2_ n3_))
 have n_ := a4 (Kd.R_drew HO_5.out) (blk_drew BK112.out) (blk_drew BK117.out) (below_drew1 HB.out); clear HO_5 BK112 BK117 HB; obtain ⟨HO_5, BK112, BK117, HB⟩ := n_; obtain ⟨Ao31, co31, eo31⟩ := Kd.R_slice HO_5.out
 (first | subst eo31 | (injection eo31 with f1_ f2_ f3_; have f4_ := f1_.symm; have f5_ := f3_.symm; clear f1_ f2_ f3_; subst f4_; subst f5_))
 obtain ⟨p120, q120, ad120, e120, hx120_0⟩ := wq (Kd.at_int (Kd.R_reads' HO_5.out).2.2 ((rd_T98 l0_1 x21_1).f0)); cases e120; obtain ⟨p121, q121, ad121, e121, hx121_0⟩ := wq (Kd.at_int HR1.out x21_1); have hw121_0 := hx121_0
 obtain rfl : ad118 = ad121 := (by injection e121)
 (try replace hx121_0 := hbc HB hx121_0); have p21 : 0 ≤ (((rd_T98 l0_1 x21_1).f0) : Int) := oda; have q21 : (((rd_T98 l0_1 x21_1).f0) : Int) < ((x5_1.length : Int) : Int) := oda
 obtain ⟨go21, co21, eo21, gb21, gl21, cl21, HG21⟩ := Kd.R_form HO_5.out (by omega)
 (first | cases eo21 | (injection eo21 with ea_ en_ ec_; (first | subst ea_ | (injection ea_ with ea_; subst ea_)); subst ec_; clear en_))
 have GB21 := ak gb21; have GG21 := ak HG21; clear gb21 gl21 HG21
 (first | simp only [add_plain] at hx120_0 | skip)
 obtain ⟨hx21_0, hf21_0⟩ := Kd.R_celln 0 HO_5.out (((rd_T98 l0_1 x21_1).f0) : Int) p21 q21; replace p21 := eq_true p21; replace q21 := eq_true q21; have HP32 := Kd.R_putn HO_5.out (((rd_T98 l0_1 x21_1).f0) : Int) (wrap64 ((rd x5_1 ((rd_T98 l0_1 x21_1).f0)) + (rd l1 x21_1))); rw [← Ny122.out] at HP32; have HQ32 := ak HP32; clear HP32
 refine stC 12 [11] (cX (bc0 BK117) (cX (bc1 BK117) (cX (bc2 BK117) (cX (bc3 BK117) (cX hx120_0 (cY (hbc HB hw121_0))))))) proof_carried.tab7 proof_carried.bits7 fun hHeld HT_ HW_ => ?_
 generalize w29.drew = w30 at HO_5 BK112 BK117 HB GG21 HQ32 hf21_0 hx120_0 hx121_0 hx21_0 hHeld ⊢
 refine pv HT_ 0 41 ?_; refine pv HT_ 1 42 ?_; refine pv HT_ 5 46 ?_; refine pv HT_ 6 47 ?_; refine pv HT_ 7 48 ?_; refine tv HT_ HW_ hHeld 2 43 ?_; refine pv HT_ 3 44 ?_; refine tv HT_ HW_ hHeld 4 45 ?_; refine tv HT_ HW_ hHeld 8 49 ?_; refine pv HT_ 9 50 ?_; refine pv HT_ 10 51 ?_
 refine last_ (i := 11) (N := none) #[T, T, T, T, T, T, T, T, T, T, T, T] rfl rfl (one_of HT_.out (by kernel_rfl)) (by decide) (fun K hK => ?_)
 refine skip_ (w1 := ?_) (by rfl) rfl ?_ ?_
 rotate_left
 ·
  go_simp
  rfl
 refine hK.out _ _ ?_
 clear hK K
 refine done_ (done_of HT_.out (by kernel_rfl)) ?_
 try go_wp2
 have n0_ : Aside0 (Kd.R (Kd.int .i64) 2 (w30.setCell ⟨go21, (((rd_T98 l0_1 x21_1).f0) : Int).toNat, none⟩ (.int .i64 (wrap64 ((rd x5_1 ((rd_T98 l0_1 x21_1).f0)) + (rd l1 x21_1))))) w.heap.size (fun _ => True) (.slice (some ⟨go21, 0, none⟩) x5_1.length co31) y122) := ⟨by (with_reducible repeat (first | apply Kd.R_alloc | apply Kd.R_drewN | apply Kd.R_drew)); exact HQ32.out⟩
 have n1_ : Aside0 ((w30.setCell ⟨go21, (((rd_T98 l0_1 x21_1).f0) : Int).toNat, none⟩ (.int .i64 (wrap64 ((rd x5_1 ((rd_T98 l0_1 x21_1).f0)) + (rd l1 x21_1))))).heap[gb112]? = some (.cells #[.int .i64 a0_0, .slice (some ad116) l0_1.length c0_1] 24 (0, 0))) := ⟨by (with_reducible repeat (first | refine blk_drewN ?_ _ | refine blk_drew ?_ | refine blk_alloc ?_ _)); refine blk_far ?_ (by have h_ := Kd.R_ne HO_5.out BK112.out (by decide); intro e_; exact h_ (by rw [e_]; rfl)) _; exact bx BK112.out⟩
 have n2_ : Aside0 ((w30.setCell ⟨go21, (((rd_T98 l0_1 x21_1).f0) : Int).toNat, none⟩ (.int .i64 (wrap64 ((rd x5_1 ((rd_T98 l0_1 x21_1).f0)) + (rd l1 x21_1))))).heap[gb117]? = some (.cells #[.int .i64 ((rd_T98 l0_1 x21_1).f0), .int .i64 ((rd_T98 l0_1 x21_1).f1), .int .i64 ((rd_T98 l0_1 x21_1).f2), .int .i64 ((rd_T98 l0_1 x21_1).f3)] 98 (0, 0))) := ⟨by (with_reducible repeat (first | refine blk_drewN ?_ _ | refine blk_drew ?_ | refine blk_alloc ?_ _)); refine blk_far ?_ (by have h_ := Kd.R_ne HO_5.out BK117.out (by decide); intro e_; exact h_ (by rw [e_]; rfl)) _; exact bx BK117.out⟩
 have n3_ : Aside0 (Below w.heap.size w (w30.setCell ⟨go21, (((rd_T98 l0_1 x21_1).f0) : Int).toNat, none⟩ (.int .i64 (wrap64 ((rd x5_1 ((rd_T98 l0_1 x21_1).f0)) + (rd l1 x21_1)))))) := ⟨by repeat (first | (with_reducible first | exact HB.out | apply below_alloc | apply pw_below_drewN | apply below_drew1 | refine below_set ?_ GB21.out | refine below_set ?_ GE112.out | refine below_set ?_ GE117.out) | exact HB.out)⟩
 (try clear HO_5)
 (try clear BK112)
 (try clear BK117)
 (try clear HB)
 generalize (w30.setCell ⟨go21, (((rd_T98 l0_1 x21_1).f0) : Int).toNat, none⟩ (.int .i64 (wrap64 ((rd x5_1 ((rd_T98 l0_1 x21_1).f0)) + (rd l1 x21_1))))) = w33 at n0_ n1_ n2_ n3_ ⊢
 have HO_5 := n0_; have BK112 := n1_; have BK117 := n2_; have HB := n3_; clear n0_ n1_ n2_ n3_; have n_ := a4 (Kd.R_drew HO_5.out) (blk_drew BK112.out) (blk_drew BK117.out) (below_drew1 HB.out); clear HO_5 BK112 BK117 HB; obtain ⟨HO_5, BK112, BK117, HB⟩ := n_; have p123 : 0 ≤ (((rd_T98 l0_1 x21_1).f1) : Int) := oda
 have q123 : ((rd_T98 l0_1 x21_1).f1) < (y122.length : Int) := (by have h_ : (((rd_T98 l0_1 x21_1).f1) : Int) < ((x5_1.length : Int) : Int) := oda; first | (have e_ := (Kd.R_reads' HO_5.out).1; omega) | simpa only [Ny122.out, List.length_set] using h_)
 have ql123 : ((((rd_T98 l0_1 x21_1).f1) : Int) < ((x5_1.length : Int) : Int)) = True := eq_true (oda); obtain ⟨ad123, e123, hx123_0⟩ := Kd.at_int (Kd.R_reads' HO_5.out).2.2 ((rd_T98 l0_1 x21_1).f1) p123 q123
 obtain rfl : (⟨go21, 0, none⟩ : Addr) = ad123 := (by injection e123)
 (first | simp only [add_plain] at hx123_0 | simp only [add_at] at hx123_0 | simp only [Addr.add, Nat.zero_add] at hx123_0 | skip)
 replace p123 := eq_true p123; replace q123 := eq_true q123; obtain ⟨p124, q124, ad124, e124, hx124_0⟩ := wq (Kd.at_int HR1.out x21_1); have hw124_0 := hx124_0
 obtain rfl : ad118 = ad124 := (by injection e124)
 (try replace hx124_0 := hbc HB hx124_0); have p24 : 0 ≤ (((rd_T98 l0_1 x21_1).f1) : Int) := oda; have q24 : (((rd_T98 l0_1 x21_1).f1) : Int) < ((x5_1.length : Int) : Int) := oda; obtain ⟨hx24_0, hf24_0⟩ := Kd.R_celln 0 HO_5.out (((rd_T98 l0_1 x21_1).f1) : Int) p24 q24; replace p24 := eq_true p24; replace q24 := eq_true q24; have HP35 := Kd.R_putn HO_5.out (((rd_T98 l0_1 x21_1).f1) : Int) (wrap64 ((rd y122 ((rd_T98 l0_1 x21_1).f1)) - (rd l1 x21_1))); rw [← Ny125.out] at HP35; have HQ35 := ak HP35; clear HP35
 refine stC 12 [11] (cX (bc0 BK117) (cX (bc1 BK117) (cX (bc2 BK117) (cX (bc3 BK117) (cX hx123_0 (cY (hbc HB hw124_0))))))) proof_carried.tab8 proof_carried.bits8 fun hHeld HT_ HW_ => ?_
 generalize w33.drew = w34 at HO_5 BK112 BK117 HB HQ32 HQ35 hf24_0 hx123_0 hx124_0 hx24_0 hHeld ⊢
 refine pv HT_ 0 52 ?_; refine pv HT_ 1 53 ?_; refine pv HT_ 5 57 ?_; refine pv HT_ 6 58 ?_; refine pv HT_ 7 59 ?_; refine tv HT_ HW_ hHeld 2 54 ?_; refine pv HT_ 3 55 ?_; refine tv HT_ HW_ hHeld 4 56 ?_; refine tv HT_ HW_ hHeld 8 60 ?_; refine pv HT_ 9 61 ?_; refine pv HT_ 10 62 ?_
 refine last_ (i := 11) (N := none) #[T, T, T, T, T, T, T, T, T, T, T, T] rfl rfl (one_of HT_.out (by kernel_rfl)) (by decide) (fun K hK => ?_)
 refine skip_ (w1 := ?_) (by rfl) rfl ?_ ?_
 rotate_left
 ·
  go_simp
  rfl
 refine hK.out _ _ ?_
 clear hK K
 refine done_ (done_of HT_.out (by kernel_rfl)) ?_
 try go_wp2
 go_roundg k1
 case measure => have := HK1.out; omega
 case rel => exact ⟨(y125), (wrap64 (x21_1 + 1)), sr, H', ⟨by have := HK1.out; omega⟩, ⟨by (with_reducible repeat (first | apply Kd.R_alloc | apply Kd.R_drewN | apply Kd.R_drew)); exact HQ35.out⟩, ⟨by (with_reducible repeat (first | refine blk_drewN ?_ _ | refine blk_drew ?_ | refine blk_alloc ?_ _)); refine blk_far ?_ (by have h_ := Kd.R_ne HO_5.out BK112.out (by decide); intro e_; exact h_ (by rw [e_]; rfl)) _; exact bx BK112.out⟩, ⟨by repeat (first | (with_reducible first | exact HB.out | apply below_alloc | apply pw_below_drewN | apply below_drew1 | refine below_set ?_ GB21.out | refine below_set ?_ GE112.out | refine below_set ?_ GE117.out) | exact HB.out)⟩⟩
theorem proof_carried.ok (k : Nat) (a0_0 : Int) (A0_1 : Option Addr) (c0_1 : Nat) (l0_1 : List (S98)) (A1 : Option Addr) (c1 : Nat) (l1 : List Int) (r2 : List Int) (w : World) (hr0_1 : Kd.C k98 w A0_1 l0_1.length l0_1) (hc0_1 : l0_1.length ≤ c0_1) (hr1 : Kd.C (Kd.int .i64) w A1 l1.length l1) (hc1 : l1.length ≤ c1) (h : proof_carried.f k a0_0 l0_1 l1 = some (0, r2)) :
    Calls Try.prog 52 #[.agg #[.int .i64 a0_0, .slice A0_1 l0_1.length c0_1], .slice A1 l1.length c1] w fun e w' => ∃ v1_ : Value, e = .returned (v1_) ∧ Kd.R (Kd.int .i64) 2 w' w.heap.size (fun _ => True) v1_ r2 ∧ Below w.heap.size w w' :=
 (proof_carried.calls k a0_0 A0_1 c0_1 l0_1 A1 c1 l1 0 r2 w hr0_1 hc0_1 hr1 hc1 h).mono fun e w' h_ => h_.good rfl
theorem proof_carried.bad (k : Nat) (a0_0 : Int) (A0_1 : Option Addr) (c0_1 : Nat) (l0_1 : List (S98)) (A1 : Option Addr) (c1 : Nat) (l1 : List Int) (r1 : Int) (r2 : List Int) (w : World) (hr0_1 : Kd.C k98 w A0_1 l0_1.length l0_1) (hc0_1 : l0_1.length ≤ c0_1) (hr1 : Kd.C (Kd.int .i64) w A1 l1.length l1) (hc1 : l1.length ≤ c1) (h : proof_carried.f k a0_0 l0_1 l1 = some (r1, r2)) (hne_ : r1 ≠ 0) :
    Calls Try.prog 52 #[.agg #[.int .i64 a0_0, .slice A0_1 l0_1.length c0_1], .slice A1 l1.length c1] w fun e w' => e = gave r1 ∧ Below w.heap.size w w' :=
 (proof_carried.calls k a0_0 A0_1 c0_1 l0_1 A1 c1 l1 r1 r2 w hr0_1 hc0_1 hr1 hc1 h).mono fun e w' h_ => h_.bad hne_

end Go.Proofs.Ytkdoihcjhccliaa.Q
