-- PRINTED by print.py (a twelfth state) out of the translation. Not trusted: Lean checks it.
import Derived.Test.YtacklfnnpiobgaaQ0
namespace Go.Proofs.Ytacklfnnpiobgaa.Q
open Go.RowKit Go.Proofs.YtacklfnnpiobgaaW.PrintWords Go.Proofs.YtacklfnnpiobgaaW.PrintLast Go.Proofs.YtacklfnnpiobgaaW.PrintMore
attribute [local go_sem] max2_int min2_int max_two min_two max_three min_three max_four min_four   -- for this text's walks alone
set_option linter.unusedVariables false
set_option linter.unusedSimpArgs false

/-! ### walk_outs: function 30 -/
def walk_outs.l0 : Nat → List (List Int) → List (S41) → Int → Int → Option ((List (List Int)))
  | 0, _, _, _, _ => none
  | k + 1, x3, x10, x11, x12 => if x12 < x11 then (if 0 ≤ x12 then (if x12 < (x10.length : Int) then (if 0 ≤ ((rd_T41 x10 x12).f0) then (if ((rd_T41 x10 x12).f0) < (x3.length : Int) then (if (rd_L2 x3 ((rd_T41 x10 x12).f0)).length < 17592186044416 then (walk_outs.l0 k (x3.set (((rd_T41 x10 x12).f0) : Int).toNat ((rd_L2 x3 ((rd_T41 x10 x12).f0)) ++ [x12])) x10 x11 (wrap64 (x12 + 1))) else (none)) else (none)) else (none)) else (none)) else (none)) else (some x3)
def walk_outs.f (k : Nat) (a0_0 : Int) (l0_1 : List (S41)) : Option ((List (List Int))) := if 0 ≤ a0_0 then (if (a0_0 : Int).toNat ≤ 11728124029610 then (walk_outs.l0 k (List.replicate (a0_0 : Int).toNat []) l0_1 (l0_1.length : Int) 0) else (none)) else (none)
theorem walk_outs.mono_l : ∀ k, (∀ y0 y1 y2 y3, LeO (walk_outs.l0 k y0 y1 y2 y3) (walk_outs.l0 (k + 1) y0 y1 y2 y3))
  | 0 => fun _ _ _ _ r h => by simp [walk_outs.l0] at h
  | k + 1 => by
    have ih0 := walk_outs.mono_l k
    · intro y0 y1 y2 y3
      unfold walk_outs.l0
      repeat' first
      | (with_reducible exact ih0 _ _ _ _)
      | (with_reducible exact LeO.refl _)
      | (with_reducible exact LeO.none _)
      | (with_reducible refine LeO.ite ?_ ?_)
      | (with_reducible refine LeO.bind ?_ (fun _ => ?_))
      | exact ih0 _ _ _ _
      | exact LeO.none _
      | refine LeO.ite ?_ ?_
      | refine LeO.bind ?_ (fun _ => ?_)
theorem walk_outs.mono : ∀ a0 a1 k, LeO (walk_outs.f k a0 a1) (walk_outs.f (k + 1) a0 a1) := by
  intro a0 a1 k
  have ih0 := walk_outs.mono_l k
  unfold walk_outs.f
  repeat' first
      | (with_reducible exact ih0 _ _ _ _)
      | (with_reducible exact LeO.refl _)
      | (with_reducible exact LeO.none _)
      | (with_reducible refine LeO.ite ?_ ?_)
      | (with_reducible refine LeO.bind ?_ (fun _ => ?_))
      | exact ih0 _ _ _ _
      | exact LeO.none _
      | refine LeO.ite ?_ ?_
      | refine LeO.bind ?_ (fun _ => ?_)
def walk_outs.T5 : Bool × List (List Nat × List Nat) := (true, [([], []), ([], []), ([1], [1]), ([], []), ([], []), ([4], [4]), ([3, 5], [3, 5]), ([6], [6]), ([], []), ([8], [8]), ([7, 9], [7, 9]), ([0, 2, 0, 1, 2, 3, 4, 5, 6, 7, 8, 9, 10], [0, 2]), ([11, 10, 10, 0, 1, 2, 3, 4, 5, 6, 7, 8, 9, 10], [10, 11])])
def walk_outs.B5 : List Nat := [0, 0, 2, 0, 0, 16, 56, 120, 0, 256, 1016, 2047, 4095]
theorem walk_outs.tab5 : rtab .any (opsOf Try.f30 5) = walk_outs.T5 := by kernel_rfl
theorem walk_outs.bits5 : waitsOk walk_outs.T5.2 walk_outs.B5 = true := by kernel_rfl
set_option maxHeartbeats 8000000 in
set_option maxRecDepth 100000 in
theorem walk_outs.calls (k : Nat) (a0_0 : Int) (A0_1 : Option Addr) (c0_1 : Nat) (l0_1 : List (S41)) (r : List (List Int)) (w : World) (hr0_1 : Kd.C k41 w A0_1 l0_1.length l0_1) (hc0_1 : l0_1.length ≤ c0_1) (h : walk_outs.f k a0_0 l0_1 = some r) :
    Calls Try.prog 30 #[.agg #[.int .i64 a0_0, .slice A0_1 l0_1.length c0_1]] w fun e w' => ∃ v0_ : Value, e = .returned (v0_) ∧ Kd.S (Kd.slice 3 (Kd.int .i64)) 26 w' w.heap.size (fun _ => True) v0_ r ∧ Below w.heap.size w w' := by
 have hu24 := Try.underlying24
 have hu41 := Try.underlying41
 have HR0_1 := ak hr0_1
 have HC0_1 := ak hc0_1
 clear hr0_1 hc0_1
 have HB := ak (Below.refl w.heap.size w)
 have H : (if 0 ≤ a0_0 then (if (a0_0 : Int).toNat ≤ 11728124029610 then (walk_outs.l0 k (List.replicate (a0_0 : Int).toNat []) l0_1 (l0_1.length : Int) 0) else (none)) else (none)) = some r := h
 clear h
 by_cases c2 : 0 ≤ a0_0
 rotate_left
 ·
  rw [if_neg c2] at H
  exact absurd H (by simp)

 rw [if_pos c2] at H
 have c2b0 := eq_true c2
 have c2b1 : decide (0 ≤ a0_0) = true := decide_eq_true c2
 clear c2
 by_cases c3 : (a0_0 : Int).toNat ≤ 11728124029610
 rotate_left
 ·
  rw [if_neg c3] at H
  exact absurd H (by simp)
 rw [if_pos c3] at H
 have c3b0 := eq_true c3
 have c3b1 : decide ((a0_0 : Int).toNat ≤ 11728124029610) = true := decide_eq_true c3
 clear c3
 obtain ⟨y108, hy108⟩ : ∃ y_ : List (List Int), y_ = (List.replicate (a0_0 : Int).toNat []) := ⟨_, rfl⟩
 replace H : (walk_outs.l0 k y108 l0_1 (l0_1.length : Int) 0) = some r := by first | (rw [hy108]; exact H) | exact H
 have Ny108 := ak hy108
 clear hy108
 have H' := ak H
 clear H
 go_enter Try.func30, Try.ntmps30
 go_wp2_with (first | ((with_reducible refine gate_dst (N := 1) rfl ?_); refine box_event ?hg (N := 1) ?hd (cs := #[.int .i64 a0_0, .slice A0_1 l0_1.length c0_1]) (t := 24) ?hr ?_; (case hd => rfl); (case hg => rfl); (case hr => first | (go_simp; done) | (go_simp; rfl)); intro gb107 hg w4 hbox hb; have n0_ := ak (below_step lb hb); have n1_ := ak (hbox); have n2_ := ak ((by rw [hg]; exact (below_size lb) : w.heap.size ≤ gb107)); have n3_ := ak ((by rw [hg]; exact (below_size lb) : w.heap.size ≤ gb107)); clear HB; have HB := n0_; have BK107 := n1_; have GW107 := n2_; have GE107 := n3_; clear n0_ n1_ n2_ n3_; clear hb hbox hg; have hcz5_0 : w4.cell? ⟨gb107, 0, none⟩ = some (.int .i64 a0_0) := (blk_cell BK107.out 0).trans rfl; have hcz5_1 : w4.cell? ⟨gb107, 1, none⟩ = some (.slice A0_1 l0_1.length c0_1) := (blk_cell BK107.out 1).trans rfl; have hfz5_0 := blk_frozen BK107.out 0; have hfz5_1 := blk_frozen BK107.out 1) | ((with_reducible refine gate_dst (N := 8) rfl ?_); refine Kd.S_make (Kd.slice 3 (Kd.int .i64)) _ 26 rfl (N := 8) rfl 52 _ _ rfl a0_0 rfl rfl Try.underlying52 (.slice none 0 0) 24 info26 rfl (by decide) (by omega) [] (ok := fun _ => True) (okp := fun _ => True) ⟨_, rfl, Kd.R_nil _ _ _ _ _⟩ (fun _ hk => hk) trivial (oda) (Nat.le_trans (Nat.mul_le_mul_right _ (oda : a0_0.toNat ≤ 11728124029610)) (by omega)) (Below.refl _ _) (Nat.le_refl _) ?_; intro v109 w6 ho7 hb hg_ hnew_; clear hg_ hnew_; (first | rw [← Ny108.out] at ho7 | (simp only [Int.reduceToNat] at ho7; rw [← Ny108.out] at ho7)); have n0_ := ak (Kd.S_lower ho7 (below_size lb)); have n1_ := ak (blk_below (bx BK107.out) hb); have n2_ := ak (below_step lb hb); clear BK107; clear HB; have HO110 := n0_; have BK107 := n1_; have HB := n2_; clear n0_ n1_ n2_; clear hb ho7; have hcz8_0 : w6.cell? ⟨gb107, 0, none⟩ = some (.int .i64 a0_0) := (blk_cell BK107.out 0).trans rfl; have hcz8_1 : w6.cell? ⟨gb107, 1, none⟩ = some (.slice A0_1 l0_1.length c0_1) := (blk_cell BK107.out 1).trans rfl; have hfz8_0 := blk_frozen BK107.out 0; have hfz8_1 := blk_frozen BK107.out 1))
 go_loopg [12] k (fun kq v12 w' => ∃ (x3_1 : List (List Int)) (x12_1 : Int), v12 = .int .i64 x12_1 ∧ Aside0 (walk_outs.l0 kq x3_1 l0_1 (l0_1.length : Int) x12_1 = some r) ∧ Aside0 (kq ≤ k) ∧ Aside0 (Kd.S (Kd.slice 3 (Kd.int .i64)) 26 w' w.heap.size (fun _ => True) v109 x3_1) ∧ Aside0 (w'.heap[gb107]? = some (.cells #[.int .i64 a0_0, (.slice A0_1 l0_1.length c0_1)] 24 (0, 0))) ∧ Aside0 (Below w.heap.size w w'))
 case atStart => exact ⟨(y108), (0), (by first | rfl | (simp [*]; done)), H', ⟨Nat.le_refl _⟩, ⟨sx HO110.out⟩, ⟨bx BK107.out⟩, ⟨lb⟩⟩
 case round =>
  clear H'
  try clear c2; try clear c2b0; try clear c2b1; try clear p2; try clear c3; try clear c3b0; try clear c3b1; try clear hcz5_0; try clear hcz5_1; try clear hcz8_0; try clear hcz8_1; try clear hfz5_0; try clear hfz5_1; try clear hfz8_0; try clear hfz8_1
  obtain ⟨x3_1, x12_1, rfl, HA, HK1, HO_3, BK107, HB⟩ := hrel
  cases gk with
  | zero => exact absurd HA.out (by simp [walk_outs.l0])
  | succ k1 =>
   have H := HA.out
   clear HA
   simp only [walk_outs.l0] at H
   by_cases c9 : x12_1 < (l0_1.length : Int)
   ·
    rw [if_pos c9] at H
    have c9b0 : decide (x12_1 < (l0_1.length : Int)) = true := decide_eq_true c9
    clear c9
    by_cases c10 : 0 ≤ x12_1
    rotate_left
    ·
     rw [if_neg c10] at H
     exact absurd H (by simp)
    rw [if_pos c10] at H
    have c10b0 : decide (0 ≤ x12_1) = true := decide_eq_true c10
    clear c10
    by_cases c11 : x12_1 < (l0_1.length : Int)
    rotate_left
    ·
     rw [if_neg c11] at H
     exact absurd H (by simp)
    rw [if_pos c11] at H
    have c11b0 : decide (x12_1 < (l0_1.length : Int)) = true := decide_eq_true c11
    clear c11
    by_cases c12 : 0 ≤ ((rd_T41 l0_1 x12_1).f0)
    rotate_left
    ·
     rw [if_neg c12] at H
     exact absurd H (by simp)
    rw [if_pos c12] at H
    have c12b0 : decide (0 ≤ ((rd_T41 l0_1 x12_1).f0)) = true := decide_eq_true c12
    clear c12
    by_cases c13 : ((rd_T41 l0_1 x12_1).f0) < (x3_1.length : Int)
    rotate_left
    ·
     rw [if_neg c13] at H
     exact absurd H (by simp)
    rw [if_pos c13] at H
    have c13b0 : decide (((rd_T41 l0_1 x12_1).f0) < (x3_1.length : Int)) = true := decide_eq_true c13
    clear c13
    by_cases c14 : (rd_L2 x3_1 ((rd_T41 l0_1 x12_1).f0)).length < 17592186044416
    rotate_left
    ·
     rw [if_neg c14] at H
     exact absurd H (by simp)
    rw [if_pos c14] at H
    have LMc14 := ak c14
    clear c14
    obtain ⟨y114, hy114⟩ : ∃ y_ : List Int, y_ = ((rd_L2 x3_1 ((rd_T41 l0_1 x12_1).f0)) ++ [x12_1]) := ⟨_, rfl⟩
    replace H : (walk_outs.l0 k1 (x3_1.set (((rd_T41 l0_1 x12_1).f0) : Int).toNat y114) l0_1 (l0_1.length : Int) (wrap64 (x12_1 + 1))) = some r := by first | (rw [hy114]; exact H) | exact H
    have Ny114 := ak hy114
    clear hy114
    obtain ⟨y117, hy117⟩ : ∃ y_ : List (List Int), y_ = (x3_1.set (((rd_T41 l0_1 x12_1).f0) : Int).toNat y114) := ⟨_, rfl⟩
    replace H : (walk_outs.l0 k1 y117 l0_1 (l0_1.length : Int) (wrap64 (x12_1 + 1))) = some r := by first | (rw [hy117]; exact H) | exact H
    have Ny117 := ak hy117
    clear hy117
    have H' := ak H
    clear H
    have p111 : 0 ≤ (x12_1 : Int) := oda
    have q111 : x12_1 < (l0_1.length : Int) := oda
    obtain ⟨ad111, e111, hx111_0, hx111_1, hx111_2, hx111_3⟩ := at_T41 HR0_1.out x12_1 p111 q111
    cases e111
    (try replace hx111_0 := (HB.out.cell (World.block_lt_of_cell? w _ hx111_0)).trans hx111_0)
    (try replace hx111_1 := (HB.out.cell (World.block_lt_of_cell? w _ hx111_1)).trans hx111_1)
    (try replace hx111_2 := (HB.out.cell (World.block_lt_of_cell? w _ hx111_2)).trans hx111_2)
    (try replace hx111_3 := (HB.out.cell (World.block_lt_of_cell? w _ hx111_3)).trans hx111_3)
    replace p111 := eq_true p111
    replace q111 := eq_true q111
    try go_wp2_with (first | ((with_reducible refine gate_dst (N := 5) rfl ?_); refine box_event ?hg (N := 5) ?hd (cs := #[.int .i64 0, .int .i64 0, .int .i64 0, .int .i64 0]) (t := 41) ?hr ?_; (case hd => rfl); (case hg => rfl); (case hr => first | (go_simp; done) | (go_simp; rfl)); intro gb112 hg w16 hbox hb; have n0_ := ak (Kd.S_below (sx HO_3.out) hb); have n1_ := ak (blk_below (bx BK107.out) hb); have n2_ := ak (below_step lb hb); have n3_ := ak (hbox); have n4_ := ak ((by rw [hg]; exact (below_size lb) : w.heap.size ≤ gb112)); have n5_ := ak ((by rw [hg]; exact (below_size lb) : w.heap.size ≤ gb112)); have n6_ := ak ((by rw [hg]; exact Nat.ne_of_lt (blk_lt (g := gb107) (o := .cells #[.int .i64 a0_0, .slice (some ad111) l0_1.length c0_1] 24 (0, 0)) (bx BK107.out)) : gb107 ≠ gb112)); have n7_ := ak ((by rw [hg]; exact Nat.ne_of_gt (blk_lt (g := gb107) (o := .cells #[.int .i64 a0_0, .slice (some ad111) l0_1.length c0_1] 24 (0, 0)) (bx BK107.out)) : gb112 ≠ gb107)); clear HO_3; clear BK107; clear HB; have HO_3 := n0_; have BK107 := n1_; have HB := n2_; have BK112 := n3_; have GW112 := n4_; have GE112 := n5_; have NB107_112 := n6_; have NB112_107 := n7_; clear n0_ n1_ n2_ n3_ n4_ n5_ n6_ n7_; clear hb hbox hg; have hnb17 := NB112_107.out; have hnc17 := NB107_112.out; have hcz18_0 : w16.cell? ⟨gb112, 0, none⟩ = some (.int .i64 0) := (blk_cell BK112.out 0).trans rfl; have hcz18_1 : w16.cell? ⟨gb112, 1, none⟩ = some (.int .i64 0) := (blk_cell BK112.out 1).trans rfl; have hcz18_2 : w16.cell? ⟨gb112, 2, none⟩ = some (.int .i64 0) := (blk_cell BK112.out 2).trans rfl; have hcz18_3 : w16.cell? ⟨gb112, 3, none⟩ = some (.int .i64 0) := (blk_cell BK112.out 3).trans rfl; have hfz18_0 := blk_frozen BK112.out 0; have hfz18_1 := blk_frozen BK112.out 1; have hfz18_2 := blk_frozen BK112.out 2; have hfz18_3 := blk_frozen BK112.out 3))
    have n0_ : Aside0 (Kd.S (Kd.slice 3 (Kd.int .i64)) 26 ((((w16.setCell ⟨gb112, 0, none⟩ (.int .i64 ((rd_T41 l0_1 x12_1).f0))).setCell ⟨gb112, 1, none⟩ (.int .i64 ((rd_T41 l0_1 x12_1).f1))).setCell ⟨gb112, 2, none⟩ (.int .i64 ((rd_T41 l0_1 x12_1).f2))).setCell ⟨gb112, 3, none⟩ (.int .i64 ((rd_T41 l0_1 x12_1).f3))) w.heap.size (fun _ => True) v109 x3_1) := ⟨by exact sx (Kd.S_mono (Kd.S_far (p := ⟨gb112, 3, none⟩) (Kd.S_far (p := ⟨gb112, 2, none⟩) (Kd.S_far (p := ⟨gb112, 1, none⟩) (Kd.S_far (p := ⟨gb112, 0, none⟩) (Kd.S_types HO_3.out BK112.out (by decide)) (fun _ hk => hk.2) (.int .i64 ((rd_T41 l0_1 x12_1).f0))) (fun _ hk => hk.2) (.int .i64 ((rd_T41 l0_1 x12_1).f1))) (fun _ hk => hk.2) (.int .i64 ((rd_T41 l0_1 x12_1).f2))) (fun _ hk => hk.2) (.int .i64 ((rd_T41 l0_1 x12_1).f3))) (fun _ hk => trivial))⟩
    have n1_ : Aside0 (((((w16.setCell ⟨gb112, 0, none⟩ (.int .i64 ((rd_T41 l0_1 x12_1).f0))).setCell ⟨gb112, 1, none⟩ (.int .i64 ((rd_T41 l0_1 x12_1).f1))).setCell ⟨gb112, 2, none⟩ (.int .i64 ((rd_T41 l0_1 x12_1).f2))).setCell ⟨gb112, 3, none⟩ (.int .i64 ((rd_T41 l0_1 x12_1).f3))).heap[gb107]? = some (.cells #[.int .i64 a0_0, .slice (some ad111) l0_1.length c0_1] 24 (0, 0))) := ⟨by (with_reducible repeat (first | refine blk_drewN ?_ _ | refine blk_drew ?_ | refine blk_alloc ?_ _)); refine blk_far ?_ NB107_112.out _; (with_reducible repeat (first | refine blk_drewN ?_ _ | refine blk_drew ?_ | refine blk_alloc ?_ _)); refine blk_far ?_ NB107_112.out _; (with_reducible repeat (first | refine blk_drewN ?_ _ | refine blk_drew ?_ | refine blk_alloc ?_ _)); refine blk_far ?_ NB107_112.out _; (with_reducible repeat (first | refine blk_drewN ?_ _ | refine blk_drew ?_ | refine blk_alloc ?_ _)); refine blk_far ?_ NB107_112.out _; exact bx BK107.out⟩
    have n2_ : Aside0 (((((w16.setCell ⟨gb112, 0, none⟩ (.int .i64 ((rd_T41 l0_1 x12_1).f0))).setCell ⟨gb112, 1, none⟩ (.int .i64 ((rd_T41 l0_1 x12_1).f1))).setCell ⟨gb112, 2, none⟩ (.int .i64 ((rd_T41 l0_1 x12_1).f2))).setCell ⟨gb112, 3, none⟩ (.int .i64 ((rd_T41 l0_1 x12_1).f3))).heap[gb112]? = some (.cells #[.int .i64 ((rd_T41 l0_1 x12_1).f0), .int .i64 ((rd_T41 l0_1 x12_1).f1), .int .i64 ((rd_T41 l0_1 x12_1).f2), .int .i64 ((rd_T41 l0_1 x12_1).f3)] 41 (0, 0))) := ⟨by (with_reducible repeat (first | refine blk_drewN ?_ _ | refine blk_drew ?_ | refine blk_alloc ?_ _)); refine blk_put (cs := #[.int .i64 ((rd_T41 l0_1 x12_1).f0), .int .i64 ((rd_T41 l0_1 x12_1).f1), .int .i64 ((rd_T41 l0_1 x12_1).f2), .int .i64 0]) ?_ 3 _ rfl; (with_reducible repeat (first | refine blk_drewN ?_ _ | refine blk_drew ?_ | refine blk_alloc ?_ _)); refine blk_put (cs := #[.int .i64 ((rd_T41 l0_1 x12_1).f0), .int .i64 ((rd_T41 l0_1 x12_1).f1), .int .i64 0, .int .i64 0]) ?_ 2 _ rfl; (with_reducible repeat (first | refine blk_drewN ?_ _ | refine blk_drew ?_ | refine blk_alloc ?_ _)); refine blk_put (cs := #[.int .i64 ((rd_T41 l0_1 x12_1).f0), .int .i64 0, .int .i64 0, .int .i64 0]) ?_ 1 _ rfl; (with_reducible repeat (first | refine blk_drewN ?_ _ | refine blk_drew ?_ | refine blk_alloc ?_ _)); refine blk_put (cs := #[.int .i64 0, .int .i64 0, .int .i64 0, .int .i64 0]) ?_ 0 _ rfl; exact bx BK112.out⟩
    have n3_ : Aside0 (Below w.heap.size w ((((w16.setCell ⟨gb112, 0, none⟩ (.int .i64 ((rd_T41 l0_1 x12_1).f0))).setCell ⟨gb112, 1, none⟩ (.int .i64 ((rd_T41 l0_1 x12_1).f1))).setCell ⟨gb112, 2, none⟩ (.int .i64 ((rd_T41 l0_1 x12_1).f2))).setCell ⟨gb112, 3, none⟩ (.int .i64 ((rd_T41 l0_1 x12_1).f3)))) := ⟨lb⟩
    (try clear HO_3)
    (try clear BK107)
    (try clear BK112)
    (try clear HB)
    generalize ((((w16.setCell ⟨gb112, 0, none⟩ (.int .i64 ((rd_T41 l0_1 x12_1).f0))).setCell ⟨gb112, 1, none⟩ (.int .i64 ((rd_T41 l0_1 x12_1).f1))).setCell ⟨gb112, 2, none⟩ (.int .i64 ((rd_T41 l0_1 x12_1).f2))).setCell ⟨gb112, 3, none⟩ (.int .i64 ((rd_T41 l0_1 x12_1).f3))) = w19 at n0_ n1_ n2_ n3_ ⊢
    have HO_3 := n0_
    have BK107 := n1_
    have BK112 := n2_
    have HB := n3_
    clear n0_ n1_ n2_ n3_
    have n0_ := ak (Kd.S_drew HO_3.out)
    have n1_ := ak (blk_drew BK107.out)
    have n2_ := ak (blk_drew BK112.out)
    have n3_ := ak (below_drew1 HB.out)
    clear HO_3
    clear BK107
    clear BK112
    clear HB
    have HO_3 := n0_
    have BK107 := n1_
    have BK112 := n2_
    have HB := n3_
    clear n0_ n1_ n2_ n3_
    obtain ⟨Ao21, co21, eo21⟩ := Kd.S_slice HO_3.out
    (first | subst eo21 | (injection eo21 with f1_ f2_ f3_; have f4_ := f1_.symm; have f5_ := f3_.symm; clear f1_ f2_ f3_; subst f4_; subst f5_))
    have p113 : 0 ≤ (((rd_T41 l0_1 x12_1).f0) : Int) := oda
    have q113 : ((rd_T41 l0_1 x12_1).f0) < (x3_1.length : Int) := oda
    obtain ⟨ad113, A113_0, c113_0, e113, hx113_0, hl113_0, hi113_0⟩ := at_L2 (Kd.S_reads' HO_3.out).2.2 ((rd_T41 l0_1 x12_1).f0) p113 q113
    cases e113
    obtain ⟨ce113, hce113, hMe113, hcc113⟩ := Kd.S_get HO_3.out [] ((rd_T41 l0_1 x12_1).f0) p113 (by first | exact q113 | exact oda | (have e_ := (Kd.S_reads' HO_3.out).1; omega))
    obtain ⟨ve113_0, rfl, ge113_0⟩ := hMe113
    have hv113_0 := hcc113 0 _ rfl
    rw [Nat.add_zero, show ((Kd.slice 3 (Kd.int .i64))).sz = 1 from rfl, Nat.mul_one] at hv113_0
    replace hv113_0 := Option.some.inj (hv113_0.symm.trans hx113_0)
    rw [hv113_0] at ge113_0
    have HL113_0 := ak (show Kd.R (Kd.int .i64) 3 _ _ _ _ (rd_L2 x3_1 ((rd_T41 l0_1 x12_1).f0)) from ge113_0)
    clear hv113_0 ge113_0
    have HX113_0 := ak hx113_0
    clear hcc113 hce113
    have HR113_0 := ak hi113_0
    have HC113_0 := ak hl113_0
    clear hi113_0 hl113_0
    replace p113 := eq_true p113
    replace q113 := eq_true q113
    obtain ⟨go22, co22, eo22, gb22, gl22, cl22, HG22⟩ := Kd.S_form HO_3.out (by have h_ : (((rd_T41 l0_1 x12_1).f0) : Int) < ((x3_1.length : Int) : Int) := oda; have h2_ : 0 ≤ (((rd_T41 l0_1 x12_1).f0) : Int) := (oda); omega)
    (first | cases eo22 | (injection eo22 with ea_ en_ ec_; (first | subst ea_ | (injection ea_ with ea_; subst ea_)); subst ec_; clear en_))
    have GB22 := ak gb22
    have GG22 := ak HG22
    clear gb22 gl22 HG22
    (first | simp only [add_plain] at hx113_0 | skip)
    obtain ⟨oki22, ce22, hcl22, hM22, hcc22, _, _, hH22⟩ := Kd.S_elem HO_3.out [] (((rd_T41 l0_1 x12_1).f0) : Int) (oda) (by have h_ : (((rd_T41 l0_1 x12_1).f0) : Int) < ((x3_1.length : Int) : Int) := oda; first | exact h_ | (have e_ := (Kd.S_reads' HO_3.out).1; omega) | simpa using h_)
    obtain ⟨ve22_0, rfl, ge22_0⟩ := hM22
    have hv22 := hcc22 0 _ rfl
    have hX22 := HX113_0.out
    (try simp only [add_plain] at hX22)
    (try simp only [Nat.add_zero] at hv22)
    (try rw [show ((Kd.slice 3 (Kd.int .i64))).sz = 1 from rfl, Nat.mul_one] at hv22)
    replace hv22 := Option.some.inj (hv22.symm.trans hX22)
    subst hv22
    clear hX22 hcc22 hcl22
    have UU22 := ak (show Kd.R (Kd.int .i64) 3 _ w.heap.size oki22 (.slice A113_0 (rd_L2 x3_1 ((rd_T41 l0_1 x12_1).f0)).length c113_0) (rd_L2 x3_1 ((rd_T41 l0_1 x12_1).f0)) from ge22_0)
    have HH22 := ak hH22
    have HN22 := ak (Kd.S_reads' HO_3.out).1
    clear hH22 ge22_0
    refine start_ (n := 13) (S := fun w' => w'.cell? ⟨gb112, 0, none⟩ = some (.int .i64 ((rd_T41 l0_1 x12_1).f0)) ∧ w'.cell? ⟨gb112, 1, none⟩ = some (.int .i64 ((rd_T41 l0_1 x12_1).f1)) ∧ w'.cell? ⟨gb112, 2, none⟩ = some (.int .i64 ((rd_T41 l0_1 x12_1).f2)) ∧ w'.cell? ⟨gb112, 3, none⟩ = some (.int .i64 ((rd_T41 l0_1 x12_1).f3)) ∧ w'.cell? ⟨go22, (((rd_T41 l0_1 x12_1).f0)).toNat, none⟩ = some (.slice A113_0 (rd_L2 x3_1 ((rd_T41 l0_1 x12_1).f0)).length c113_0)) (ds := [12]) #[false, false, false, false, false, false, false, false, false, false, false, false, false] (by kernel_rfl) rfl rfl ⟨(blk_cell BK112.out 0).trans rfl, (blk_cell BK112.out 1).trans rfl, (blk_cell BK112.out 2).trans rfl, (blk_cell BK112.out 3).trans rfl, hx113_0⟩ (fun hHeld => ?_); refine with_tabW walk_outs.tab5 walk_outs.bits5 (fun HT_ HW_ => ?_)
    generalize w19.drew = w20 at HO_3 BK107 BK112 HB GG22 HH22 HL113_0 HR113_0 HX113_0 UU22 hx113_0 hHeld ⊢
    refine pure_ (i := 0) (N := some 17) (v := ?_) (a' := ?_) #[true, false, false, false, false, false, false, false, false, false, false, false, false] rfl rfl (any_of HT_.out (by kernel_rfl)) (fun _ _ _ h => h) (Or.inl ⟨by rfl, ?_⟩) ?_ ?_; rotate_left; intro w'; go_simp; with_reducible rfl; rotate_left; simp only [Act.put, List.setIfInBounds_toArray, List.set_cons_zero, List.set_cons_succ, i64_w, i32_w]; rfl
    refine pure_ (i := 1) (N := some 18) (v := ?_) (a' := ?_) #[true, true, false, false, false, false, false, false, false, false, false, false, false] rfl rfl (any_of HT_.out (by kernel_rfl)) (fun _ _ _ h => h) (Or.inl ⟨by rfl, ?_⟩) ?_ ?_; rotate_left; intro w'; go_simp; with_reducible rfl; rotate_left; simp only [Act.put, List.setIfInBounds_toArray, List.set_cons_zero, List.set_cons_succ, i64_w, i32_w]; rfl
    refine pure_ (i := 3) (N := some 20) (v := ?_) (a' := ?_) #[true, true, false, true, false, false, false, false, false, false, false, false, false] rfl rfl (any_of HT_.out (by kernel_rfl)) (fun _ _ _ h => h) (Or.inl ⟨by rfl, ?_⟩) ?_ ?_; rotate_left; intro w'; go_simp; with_reducible rfl; rotate_left; simp only [Act.put, List.setIfInBounds_toArray, List.set_cons_zero, List.set_cons_succ, i64_w, i32_w]; rfl
    refine pure_ (i := 4) (N := some 21) (v := ?_) (a' := ?_) #[true, true, false, true, true, false, false, false, false, false, false, false, false] rfl rfl (any_of HT_.out (by kernel_rfl)) (fun _ _ _ h => h) (Or.inl ⟨by rfl, ?_⟩) ?_ ?_; rotate_left; intro w'; go_simp; with_reducible rfl; rotate_left; simp only [Act.put, List.setIfInBounds_toArray, List.set_cons_zero, List.set_cons_succ, i64_w, i32_w]; rfl
    refine pure_ (i := 8) (N := some 25) (v := ?_) (a' := ?_) #[true, true, false, true, true, false, false, false, true, false, false, false, false] rfl rfl (any_of HT_.out (by kernel_rfl)) (fun _ _ _ h => h) (Or.inl ⟨by rfl, ?_⟩) ?_ ?_; rotate_left; intro w'; go_simp; with_reducible rfl; rotate_left; simp only [Act.put, List.setIfInBounds_toArray, List.set_cons_zero, List.set_cons_succ, i64_w, i32_w]; rfl
    refine take_ (i := 2) (N := some 19) (v := ?_) (a' := ?_) #[true, true, true, true, true, false, false, false, true, false, false, false, false] rfl rfl (take_ofW HT_.out HW_.out (by kernel_rfl)) (fun _ _ _ h => h) (Or.inl ⟨by rfl, ?_⟩) hHeld ?_ ?_; rotate_left; rintro w' ⟨s0, s1, s2, s3, s4⟩; go_simp; with_reducible rfl; rotate_left; simp only [Act.put, List.setIfInBounds_toArray, List.set_cons_zero, List.set_cons_succ, i64_w, i32_w]; rfl
    refine take_ (i := 5) (N := some 22) (v := ?_) (a' := ?_) #[true, true, true, true, true, true, false, false, true, false, false, false, false] rfl rfl (take_ofW HT_.out HW_.out (by kernel_rfl)) (fun _ _ _ h => h) (Or.inl ⟨by rfl, ?_⟩) hHeld ?_ ?_; rotate_left; rintro w' ⟨s0, s1, s2, s3, s4⟩; go_simp; with_reducible rfl; rotate_left; simp only [Act.put, List.setIfInBounds_toArray, List.set_cons_zero, List.set_cons_succ, i64_w, i32_w]; rfl
    refine pure_ (i := 6) (N := some 23) (v := ?_) (a' := ?_) #[true, true, true, true, true, true, true, false, true, false, false, false, false] rfl rfl (any_of HT_.out (by kernel_rfl)) (fun _ _ _ h => h) (Or.inl ⟨by rfl, ?_⟩) ?_ ?_; rotate_left; intro w'; go_simp; with_reducible rfl; rotate_left; simp only [Act.put, List.setIfInBounds_toArray, List.set_cons_zero, List.set_cons_succ, i64_w, i32_w]; rfl
    refine take_ (i := 7) (N := some 24) (v := ?_) (a' := ?_) #[true, true, true, true, true, true, true, true, true, false, false, false, false] rfl rfl (take_ofW HT_.out HW_.out (by kernel_rfl)) (fun _ _ _ h => h) (Or.inl ⟨by rfl, ?_⟩) hHeld ?_ ?_; rotate_left; rintro w' ⟨s0, s1, s2, s3, s4⟩; go_simp; with_reducible rfl; rotate_left; simp only [Act.put, List.setIfInBounds_toArray, List.set_cons_zero, List.set_cons_succ, i64_w, i32_w]; rfl
    refine one_ (i := 9) (N := some 26) #[true, true, true, true, true, true, true, true, true, true, false, false, false] rfl rfl (one_of HT_.out (by kernel_rfl)) (by decide) (fun K hK => ?_)
    refine value_ (w1 := ?_) (v := ?_) (by rfl) rfl ?_ ?_
    rotate_left 2
    ·
     go_simp
     constructor
     ·
      rfl
     ·
      rfl
    refine hK.out _ _ ⟨(blk_cell (blk_alloc BK112.out _) 0).trans rfl, (blk_cell (blk_alloc BK112.out _) 1).trans rfl, (blk_cell (blk_alloc BK112.out _) 2).trans rfl, (blk_cell (blk_alloc BK112.out _) 3).trans rfl, (World.cell?_alloc_lt _ _ _ (World.block_lt_of_cell? _ _ (hHeld.2.2.2.2))).trans (hHeld.2.2.2.2)⟩ (fun hHeld => ?_)
    clear hK K
    refine norm_ (a' := ?_) ?_ ?_
    rotate_left
    ·
     show Act.put _ (some 26) _ = _
     simp only [Act.put, List.setIfInBounds_toArray, List.set_cons_zero, List.set_cons_succ, i64_w, i32_w]
     rfl
    refine one_ (i := 10) (N := some 27) #[true, true, true, true, true, true, true, true, true, true, true, false, false] rfl rfl (one_of HT_.out (by kernel_rfl)) (by decide) (fun K hK => ?_)
    refine Kd.R_append_step (Kd.int .i64) (w0 := w) w.heap.size (by rfl) (.tmp 24) (.tmp 26) 26 3 (.int .i64 0) 8 rfl Try.underlying26 info3 rfl (by decide) (by omega) (.slice A113_0 (rd_L2 x3_1 ((rd_T41 l0_1 x12_1).f0)).length c113_0) (rd_L2 x3_1 ((rd_T41 l0_1 x12_1).f0)) x12_1 [.int .i64 x12_1] (fun k_ => oki22 k_ ∨ ((fun _ => True)) k_ ∧ w20.heap.size ≤ k_) (fun _ => False) rfl rfl ?aP (fun _ hk => hk.elim) ?aF ?aO ?aB ?aS ?aL ?_
    (case aP => exact rfl)
    (case aB => exact lb)
    (case aF => exact (fun k_ hk => .inr ⟨trivial, hk⟩))
    (case aO => exact (by exact rx (Kd.R_mono UU22.out (fun _ hk => .inl hk))))
    (case aS => exact (below_size lb))
    (case aL => have := LMc14.out; omega)
    intro v115 w23 ho hb hg hat
    (first | have HS4_ := cell_grown hg (hHeld.2.2.2.2) (by first | (rw [add_block]; exact (fun e_ => ((HL113_0.out.1 _ e_.symm).2) rfl)) | (show some (Addr.add _ _).block ≠ _; rw [add_block]; exact (fun e_ => ((HL113_0.out.1 _ e_.symm).2) rfl)) | exact (fun e_ => ((HL113_0.out.1 _ e_.symm).2) rfl)) | have HS4_ := cell_grown hg (cell_unalloc (hHeld.2.2.2.2) (by first | (rw [add_block]; exact Kd.S_lt HO_3.out _ rfl) | (show (Addr.add _ _).block < _; rw [add_block]; exact Kd.S_lt HO_3.out _ rfl) | exact Kd.S_lt HO_3.out _ rfl)) (by first | (rw [add_block]; exact (fun e_ => ((HL113_0.out.1 _ e_.symm).2) rfl)) | (show some (Addr.add _ _).block ≠ _; rw [add_block]; exact (fun e_ => ((HL113_0.out.1 _ e_.symm).2) rfl)) | exact (fun e_ => ((HL113_0.out.1 _ e_.symm).2) rfl)))
    rw [← Ny114.out] at ho
    have n0_ := ak (blk_grown (bx BK107.out) hg (Kd.R_ne HL113_0.out BK107.out (by decide)))
    have n1_ := ak (blk_grown (bx BK112.out) hg (Kd.R_ne HL113_0.out BK112.out (by decide)))
    have n2_ := ak (hb)
    have n3_ := ak (Kd.H_grown (Kd.H_widen (by repeat (first | exact HH22.out | refine Kd.H_alloc ?_ _ | refine Kd.H_drewN ?_ _ | refine Kd.H_drew ?_))) hg (fun k_ e_ => .inl (UU22.out.1 k_ e_)))
    have n4_ := ak (ho)
    clear BK107
    clear BK112
    clear HB
    clear HH22
    clear HO_3
    clear UU22
    clear HL113_0
    have BK107 := n0_
    have BK112 := n1_
    have HB := n2_
    have HH22 := n3_
    have HO116 := n4_
    clear n0_ n1_ n2_ n3_ n4_
    clear ho hb hg hat
    have p15 : 0 ≤ (((rd_T41 l0_1 x12_1).f0) : Int) := oda
    have q15 : (((rd_T41 l0_1 x12_1).f0) : Int) < ((x3_1.length : Int) : Int) := oda
    replace p15 := eq_true p15
    replace q15 := eq_true q15
    obtain ⟨Ao26, co26, eo26⟩ := Kd.R_slice HO116.out
    (first | subst eo26 | (injection eo26 with f1_ f2_ f3_; have f4_ := f1_.symm; have f5_ := f3_.symm; clear f1_ f2_ f3_; subst f4_; subst f5_))
    obtain ⟨_, _, hraw24, _, _, hcc24, _⟩ := Kd.H_raw HH22.out (oda) (by have h_ : (((rd_T41 l0_1 x12_1).f0) : Int) < ((x3_1.length : Int) : Int) := oda; first | exact h_ | (have e_ := (HN22.out); omega) | simpa using h_)
    obtain ⟨_, hfr24⟩ := Kd.H_at HH22.out (oda) (by have h_ : (((rd_T41 l0_1 x12_1).f0) : Int) < ((x3_1.length : Int) : Int) := oda; first | exact h_ | (have e_ := (HN22.out); omega) | simpa using h_)
    have hx24_0 := hcc24 0 _ rfl
    have hf24_0 := hfr24 0
    (try simp only [Nat.add_zero] at hx24_0 hf24_0)
    (try rw [show ((Kd.slice 3 (Kd.int .i64))).sz = 1 from rfl, Nat.mul_one] at hx24_0)
    (try rw [show ((Kd.slice 3 (Kd.int .i64))).sz = 1 from rfl, Nat.mul_one] at hf24_0)
    have HP24 := Kd.S_seg0 HH22.out (oda) (by have h_ : (((rd_T41 l0_1 x12_1).f0) : Int) < ((x3_1.length : Int) : Int) := oda; first | exact h_ | (have e_ := (HN22.out); omega) | simpa using h_) (seg := [.slice Ao26 y114.length co26]) (j := 0) (show 1 ≤ 1 from by decide) (x' := y114) (Kd.M_row HO116.out) (fun _ hk => hk)
    (try simp only [show ((Kd.slice 3 (Kd.int .i64))).sz = 1 from rfl, Nat.mul_one, Nat.add_zero] at HP24)
    clear hcc24 hfr24
    have HNB107_go22 := ak (show gb107 ≠ go22 from by have h_ := Kd.R_ne hraw24 BK107.out (by decide); intro e_; exact h_ (by rw [e_]; rfl))
    have HNB112_go22 := ak (show gb112 ≠ go22 from by have h_ := Kd.R_ne hraw24 BK112.out (by decide); intro e_; exact h_ (by rw [e_]; rfl))
    have HS24 := HP24.1
    rw [← Ny117.out] at HS24
    have HQ24 := ak HS24
    obtain ⟨_, hgg24⟩ := Kd.R_typed hraw24 go22 rfl
    have GG24_ := ak hgg24
    clear HP24 HS24 hgg24
    refine hK.out _ _ ⟨(blk_cell BK112.out 0).trans rfl, (blk_cell BK112.out 1).trans rfl, (blk_cell BK112.out 2).trans rfl, (blk_cell BK112.out 3).trans rfl, HS4_⟩ (fun hHeld => ?_)
    clear hK K
    refine norm_ (a' := ?_) ?_ ?_
    rotate_left
    ·
     show Act.put _ (some 27) _ = _
     simp only [Act.put, List.setIfInBounds_toArray, List.set_cons_zero, List.set_cons_succ, i64_w, i32_w]
     rfl
    refine pure_ (i := 11) (N := some 28) (v := ?_) (a' := ?_) #[true, true, true, true, true, true, true, true, true, true, true, true, false] rfl rfl (any_of HT_.out (by kernel_rfl)) (fun _ _ _ h => h) (Or.inl ⟨by rfl, ?_⟩) ?_ ?_; rotate_left; intro w'; go_simp; with_reducible rfl; rotate_left; simp only [Act.put, List.setIfInBounds_toArray, List.set_cons_zero, List.set_cons_succ, i64_w, i32_w]; rfl
    refine last_ (i := 12) (N := none) #[true, true, true, true, true, true, true, true, true, true, true, true, true] rfl rfl (one_of HT_.out (by kernel_rfl)) (by decide) (fun K hK => ?_)
    refine skip_ (w1 := ?_) (by rfl) rfl ?_ ?_
    rotate_left
    ·
     go_simp
     rfl
    refine hK.out _ _ ?_
    clear hK K
    refine done_ (done_of HT_.out (by kernel_rfl)) ?_
    try go_wp2
    go_roundg k1
    case measure => have := HK1.out; omega
    case rel => exact ⟨(y117), (wrap64 (x12_1 + 1)), (by first | rfl | (simp [*]; done)), H', ⟨by have := HK1.out; omega⟩, ⟨by (with_reducible repeat (first | apply Kd.S_alloc | apply Kd.S_drewN | apply Kd.S_drew)); exact HQ24.out⟩, ⟨by (with_reducible repeat (first | refine blk_drewN ?_ _ | refine blk_drew ?_ | refine blk_alloc ?_ _)); refine blk_far ?_ HNB107_go22.out _; exact bx BK107.out⟩, ⟨by repeat (first | (with_reducible first | exact HB.out | apply below_alloc | apply pw_below_drewN | apply below_drew1 | refine below_set ?_ GB22.out | refine below_set ?_ GE107.out | refine below_set ?_ GE112.out) | exact HB.out)⟩⟩
   ·
    rw [if_neg c9] at H
    have c9b0 : decide (x12_1 < (l0_1.length : Int)) = false := decide_eq_false c9
    clear c9
    obtain rfl := Option.some.inj H
    go_wp2
    go_ret
    exact ⟨_, by first | rfl | (simp [errW_none, errW_some] <;> rfl) | (simp [*, errW_none, errW_some] <;> rfl), by exact sx HO_3.out, lb⟩
end Go.Proofs.Ytacklfnnpiobgaa.Q
