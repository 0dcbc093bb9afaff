-- PRINTED by print.py (a twelfth state) out of the translation. Not trusted: Lean checks it.
import Derived.Test.YtpmclhkednehhaaQ0
namespace Go.Proofs.Ytpmclhkednehhaa.Q
open Go.RowKit Go.Proofs.YtpmclhkednehhaaW.PrintWords Go.Proofs.YtpmclhkednehhaaW.PrintLast Go.Proofs.YtpmclhkednehhaaW.PrintMore
attribute [local go_sem] max2_int min2_int max_two min_two max_three min_three max_four min_four   -- for this text's walks alone
set_option linter.unusedVariables false
set_option linter.unusedSimpArgs false

/-! ### compassref03_Reverse: function 26 -/
def compassref03_Reverse.l0 : Nat → Int → Int → List (S39) → Int → List (S39) → Option (Int × (List (S39)))
  | 0, _, _, _, _, _ => none
  | k + 1, x4, x517000, x517001, x519000, x519001 => if x4 < (x517001.length : Int) then (if 0 ≤ x4 then (if x519001.length < 4398046511104 then (compassref03_Reverse.l0 k (wrap64 (x4 + 1)) x517000 x517001 x519000 (x519001 ++ [(⟨(rd_T39 x517001 x4).f1, (rd_T39 x517001 x4).f0, (rd_T39 x517001 x4).f2, (rd_T39 x517001 x4).f3⟩ : S39)])) else (none)) else (none)) else (some (x519000, x519001))
def compassref03_Reverse.f (k : Nat) (a0_0 : Int) (l0_1 : List (S39)) : Option (Int × (List (S39))) := compassref03_Reverse.l0 k 0 a0_0 l0_1 a0_0 ([] : List (S39))
theorem compassref03_Reverse.mono_l : ∀ k, (∀ y0 y1 y2 y3 y4, LeO (compassref03_Reverse.l0 k y0 y1 y2 y3 y4) (compassref03_Reverse.l0 (k + 1) y0 y1 y2 y3 y4))
  | 0 => fun _ _ _ _ _ r h => by simp [compassref03_Reverse.l0] at h
  | k + 1 => by
    have ih0 := compassref03_Reverse.mono_l k
    · intro y0 y1 y2 y3 y4
      unfold compassref03_Reverse.l0
      repeat' first
      | (with_reducible exact ih0 _ _ _ _ _)
      | (with_reducible exact LeO.refl _)
      | (with_reducible exact LeO.none _)
      | (with_reducible refine LeO.ite ?_ ?_)
      | (with_reducible refine LeO.bind ?_ (fun _ => ?_))
      | exact ih0 _ _ _ _ _
      | exact LeO.none _
      | refine LeO.ite ?_ ?_
      | refine LeO.bind ?_ (fun _ => ?_)
theorem compassref03_Reverse.mono : ∀ a0 a1 k, LeO (compassref03_Reverse.f k a0 a1) (compassref03_Reverse.f (k + 1) a0 a1) := by
  intro a0 a1 k
  have ih0 := compassref03_Reverse.mono_l k
  unfold compassref03_Reverse.f
  repeat' first
      | (with_reducible exact ih0 _ _ _ _ _)
      | (with_reducible exact LeO.refl _)
      | (with_reducible exact LeO.none _)
      | (with_reducible refine LeO.ite ?_ ?_)
      | (with_reducible refine LeO.bind ?_ (fun _ => ?_))
      | exact ih0 _ _ _ _ _
      | exact LeO.none _
      | refine LeO.ite ?_ ?_
      | refine LeO.bind ?_ (fun _ => ?_)
set_option maxHeartbeats 8000000 in
set_option maxRecDepth 100000 in
theorem compassref03_Reverse.calls (k : Nat) (a0_0 : Int) (A0_1 : Option Addr) (c0_1 : Nat) (l0_1 : List (S39)) (r1 : Int) (r2 : List (S39)) (w : World) (hr0_1 : Kd.C k39 w A0_1 l0_1.length l0_1) (hc0_1 : l0_1.length ≤ c0_1) (h : compassref03_Reverse.f k a0_0 l0_1 = some (r1, r2)) :
    Calls Try.prog 14 #[.agg #[.int .i64 a0_0, .slice A0_1 l0_1.length c0_1]] w fun e w' => ∃ v1_ : Value, e = .returned (.agg #[.int .i64 r1, v1_]) ∧ Kd.R k39 39 w' w.heap.size (fun _ => True) v1_ r2 ∧ Below w.heap.size w w' := by
 have hu24 := Try.underlying24
 have hu41 := Try.underlying39
 have HR0_1 := ak hr0_1
 have HC0_1 := ak hc0_1
 clear hr0_1 hc0_1
 have HB := ak (Below.refl w.heap.size w)
 have H : (compassref03_Reverse.l0 k 0 a0_0 l0_1 a0_0 ([] : List (S39))) = some (r1, r2) := h
 clear h
 have H' := ak H
 clear H
 go_enter Try.func14, Try.ntmps14
 go_wp2_with (first | ((with_reducible refine gate_dst (N := 1) rfl ?_); refine box_event ?hg (N := 1) ?hd (cs := #[.int .i64 a0_0, .slice A0_1 l0_1.length c0_1]) (t := 24) ?hr ?_; (case hd => rfl); (case hg => rfl); (case hr => first | (go_simp; done) | (go_simp; rfl)); intro gb516 hg w2 hbox hb; have n0_ := ak (below_step lb hb); have n1_ := ak (hbox); have n2_ := ak ((by rw [hg]; exact (below_size lb) : w.heap.size ≤ gb516)); have n3_ := ak ((by rw [hg]; exact (below_size lb) : w.heap.size ≤ gb516)); clear HB; have HB := n0_; have BK516 := n1_; have GW516 := n2_; have GE516 := n3_; clear n0_ n1_ n2_ n3_; clear hb hbox hg) | ((with_reducible refine gate_dst (N := 2) rfl ?_); refine box_event ?hg (N := 2) ?hd (cs := #[.int .i64 0, .slice none 0 0]) (t := 24) ?hr ?_; (case hd => rfl); (case hg => rfl); (case hr => first | (go_simp; done) | (go_simp; rfl)); intro gb517 hg w3 hbox hb; have n0_ := ak (blk_below (bx BK516.out) hb); have n1_ := ak (below_step lb hb); have n2_ := ak (hbox); have n3_ := ak ((by rw [hg]; exact (below_size lb) : w.heap.size ≤ gb517)); have n4_ := ak ((by rw [hg]; exact (below_size lb) : w.heap.size ≤ gb517)); have n5_ := ak ((by rw [hg]; exact Nat.ne_of_lt (blk_lt (g := gb516) (o := .cells #[.int .i64 a0_0, .slice A0_1 l0_1.length c0_1] 24 (0, 0)) (bx BK516.out)) : gb516 ≠ gb517)); have n6_ := ak ((by rw [hg]; exact Nat.ne_of_gt (blk_lt (g := gb516) (o := .cells #[.int .i64 a0_0, .slice A0_1 l0_1.length c0_1] 24 (0, 0)) (bx BK516.out)) : gb517 ≠ gb516)); clear BK516; clear HB; have BK516 := n0_; have HB := n1_; have BK517 := n2_; have GW517 := n3_; have GE517 := n4_; have NB516_517 := n5_; have NB517_516 := n6_; clear n0_ n1_ n2_ n3_ n4_ n5_ n6_; clear hb hbox hg; have hnb4 := NB516_517.out; have hnc4 := NB517_516.out; have hcz5_0 : w3.cell? ⟨gb516, 0, none⟩ = some (.int .i64 a0_0) := (blk_cell BK516.out 0).trans rfl; have hcz5_1 : w3.cell? ⟨gb516, 1, none⟩ = some (.slice A0_1 l0_1.length c0_1) := (blk_cell BK516.out 1).trans rfl; have hfz5_0 := blk_frozen BK516.out 0; have hfz5_1 := blk_frozen BK516.out 1) | ((with_reducible refine gate_dst (N := 3) rfl ?_); refine box_event ?hg (N := 3) ?hd (cs := #[.int .i64 0, .slice none 0 0]) (t := 24) ?hr ?_; (case hd => rfl); (case hg => rfl); (case hr => first | (go_simp; done) | (go_simp; rfl)); intro gb518 hg w6 hbox hb; have n0_ := ak (blk_below (bx BK516.out) hb); have n1_ := ak (blk_below (bx BK517.out) hb); have n2_ := ak (below_step lb hb); have n3_ := ak (hbox); have n4_ := ak ((by rw [hg]; exact (below_size lb) : w.heap.size ≤ gb518)); have n5_ := ak ((by rw [hg]; exact (below_size lb) : w.heap.size ≤ gb518)); have n6_ := ak ((by rw [hg]; exact Nat.ne_of_lt (blk_lt (g := gb516) (o := .cells #[.int .i64 a0_0, .slice A0_1 l0_1.length c0_1] 24 (0, 0)) (bx BK516.out)) : gb516 ≠ gb518)); have n7_ := ak ((by rw [hg]; exact Nat.ne_of_gt (blk_lt (g := gb516) (o := .cells #[.int .i64 a0_0, .slice A0_1 l0_1.length c0_1] 24 (0, 0)) (bx BK516.out)) : gb518 ≠ gb516)); have n8_ := ak ((by rw [hg]; exact Nat.ne_of_lt (blk_lt (g := gb517) (o := .cells #[.int .i64 0, .slice none 0 0] 24 (0, 0)) (bx BK517.out)) : gb517 ≠ gb518)); have n9_ := ak ((by rw [hg]; exact Nat.ne_of_gt (blk_lt (g := gb517) (o := .cells #[.int .i64 0, .slice none 0 0] 24 (0, 0)) (bx BK517.out)) : gb518 ≠ gb517)); clear BK516; clear BK517; clear HB; have BK516 := n0_; have BK517 := n1_; have HB := n2_; have BK518 := n3_; have GW518 := n4_; have GE518 := n5_; have NB516_518 := n6_; have NB518_516 := n7_; have NB517_518 := n8_; have NB518_517 := n9_; clear n0_ n1_ n2_ n3_ n4_ n5_ n6_ n7_ n8_ n9_; clear hb hbox hg; have hnb7 := NB518_516.out; have hnc7 := NB516_518.out; have hnb8 := NB518_517.out; have hnc8 := NB517_518.out; have hcz9_0 : w6.cell? ⟨gb518, 0, none⟩ = some (.int .i64 0) := (blk_cell BK518.out 0).trans rfl; have hcz9_1 : w6.cell? ⟨gb518, 1, none⟩ = some (.slice none 0 0) := (blk_cell BK518.out 1).trans rfl; have hfz9_0 := blk_frozen BK518.out 0; have hfz9_1 := blk_frozen BK518.out 1))
 go_loopg [4] k (fun kq v4 w' => ∃ (x4_1 : Int) (x519001_1 : List (S39)) (u519001 : Value), v4 = .int .i64 x4_1 ∧ Aside0 (compassref03_Reverse.l0 kq x4_1 a0_0 l0_1 a0_0 x519001_1 = some (r1, r2)) ∧ Aside0 (kq ≤ k) ∧ Aside0 (Kd.R k39 39 w' w.heap.size (fun _ => True) u519001 x519001_1) ∧ Aside0 (w'.heap[gb516]? = some (.cells #[.int .i64 a0_0, (.slice A0_1 l0_1.length c0_1)] 24 (0, 0))) ∧ Aside0 (w'.heap[gb517]? = some (.cells #[.int .i64 0, (.slice none 0 0)] 24 (0, 0))) ∧ Aside0 (w'.heap[gb518]? = some (.cells #[.int .i64 a0_0, u519001] 24 (0, 0))) ∧ Aside0 (Below w.heap.size w w'))
 case atStart => exact ⟨(0), (([] : List (S39))), (.slice none 0 0), (by first | rfl | (simp [*]; done)), H', ⟨Nat.le_refl _⟩, ⟨by first | exact Kd.R_nil _ _ _ _ _ | exact Kd.N_nil _ _ _ _ _ | exact Kd.V_nil _ _ _ _ _ | exact Kd.Q_nil _ _ _ _ _ | exact Kd.S_nil _ _ _ _ _⟩, ⟨by (with_reducible repeat (first | refine blk_drewN ?_ _ | refine blk_drew ?_ | refine blk_alloc ?_ _)); refine blk_far ?_ NB516_518.out _; (with_reducible repeat (first | refine blk_drewN ?_ _ | refine blk_drew ?_ | refine blk_alloc ?_ _)); refine blk_far ?_ NB516_518.out _; exact bx BK516.out⟩, ⟨by (with_reducible repeat (first | refine blk_drewN ?_ _ | refine blk_drew ?_ | refine blk_alloc ?_ _)); refine blk_far ?_ NB517_518.out _; (with_reducible repeat (first | refine blk_drewN ?_ _ | refine blk_drew ?_ | refine blk_alloc ?_ _)); refine blk_far ?_ NB517_518.out _; exact bx BK517.out⟩, ⟨by (with_reducible repeat (first | refine blk_drewN ?_ _ | refine blk_drew ?_ | refine blk_alloc ?_ _)); refine blk_put (cs := #[.int .i64 a0_0, .slice none 0 0]) ?_ 1 _ rfl; (with_reducible repeat (first | refine blk_drewN ?_ _ | refine blk_drew ?_ | refine blk_alloc ?_ _)); refine blk_put (cs := #[.int .i64 0, .slice none 0 0]) ?_ 0 _ rfl; exact bx BK518.out⟩, ⟨lb⟩⟩
 case round =>
  clear H'
  try clear c2; try clear p2; try clear c4; try clear c7; try clear c8; try clear hcz5_0; try clear hcz5_1; try clear hcz9_0; try clear hcz9_1; try clear hfz5_0; try clear hfz5_1; try clear hfz9_0; try clear hfz9_1
  obtain ⟨x4_1, x519001_1, u519001, rfl, HA, HK1, HO_519001, BK516, BK517, BK518, HB⟩ := hrel
  cases gk with
  | zero => exact absurd HA.out (by simp [compassref03_Reverse.l0])
  | succ k1 =>
   have H := HA.out
   clear HA
   simp only [compassref03_Reverse.l0] at H
   by_cases c10 : x4_1 < (l0_1.length : Int)
   ·
    rw [if_pos c10] at H
    have c10b0 : decide (x4_1 < (l0_1.length : Int)) = true := decide_eq_true c10
    clear c10
    by_cases c11 : 0 ≤ x4_1
    rotate_left
    ·
     rw [if_neg c11] at H
     exact absurd H (by simp)
    rw [if_pos c11] at H
    have c11b0 : decide (0 ≤ x4_1) = true := decide_eq_true c11
    clear c11
    by_cases c12 : x519001_1.length < 4398046511104
    rotate_left
    ·
     rw [if_neg c12] at H
     exact absurd H (by simp)
    rw [if_pos c12] at H
    have LMc12 := ak c12
    clear c12
    obtain ⟨y521, hy521⟩ : ∃ y_ : List (S39), y_ = (x519001_1 ++ [(⟨(rd_T39 l0_1 x4_1).f1, (rd_T39 l0_1 x4_1).f0, (rd_T39 l0_1 x4_1).f2, (rd_T39 l0_1 x4_1).f3⟩ : S39)]) := ⟨_, rfl⟩
    replace H : (compassref03_Reverse.l0 k1 (wrap64 (x4_1 + 1)) a0_0 l0_1 a0_0 y521) = some (r1, r2) := by first | (rw [hy521]; exact H) | exact H
    have Ny521 := ak hy521
    clear hy521
    have H' := ak H
    clear H
    have hnb13 := NB516_517.out
    have hnc13 := NB517_516.out
    have hnb14 := NB516_518.out
    have hnc14 := NB518_516.out
    have hcz15_0 : wr.cell? ⟨gb516, 0, none⟩ = some (.int .i64 a0_0) := (blk_cell BK516.out 0).trans rfl
    have hcz15_1 : wr.cell? ⟨gb516, 1, none⟩ = some (.slice A0_1 l0_1.length c0_1) := (blk_cell BK516.out 1).trans rfl
    have hfz15_0 := blk_frozen BK516.out 0
    have hfz15_1 := blk_frozen BK516.out 1
    have p519 : 0 ≤ (x4_1 : Int) := oda
    have q519 : x4_1 < (l0_1.length : Int) := oda
    obtain ⟨ad519, e519, hx519_0, hx519_1, hx519_2, hx519_3⟩ := at_T39 HR0_1.out x4_1 p519 q519
    cases e519
    (try replace hx519_0 := (HB.out.cell (World.block_lt_of_cell? w _ hx519_0)).trans hx519_0)
    (try replace hx519_1 := (HB.out.cell (World.block_lt_of_cell? w _ hx519_1)).trans hx519_1)
    (try replace hx519_2 := (HB.out.cell (World.block_lt_of_cell? w _ hx519_2)).trans hx519_2)
    (try replace hx519_3 := (HB.out.cell (World.block_lt_of_cell? w _ hx519_3)).trans hx519_3)
    replace p519 := eq_true p519
    replace q519 := eq_true q519
    go_wp2_with (first | ((with_reducible refine gate_dst (N := 5) rfl ?_); refine box_event ?hg (N := 5) ?hd (cs := #[.int .i64 0, .int .i64 0, .int .i64 0, .int .i64 0]) (t := 39) ?hr ?_; (case hd => rfl); (case hg => rfl); (case hr => first | (go_simp; done) | (go_simp; rfl)); intro gb520 hg w16 hbox hb; have n0_ := ak (Kd.R_below (Kd.R_elderB (rx HO_519001.out) gb520 (Nat.le_of_eq hg.symm)) hb); have n1_ := ak (blk_below (bx BK516.out) hb); have n2_ := ak (blk_below (bx BK517.out) hb); have n3_ := ak (blk_below (bx BK518.out) hb); have n4_ := ak (below_step lb hb); have n5_ := ak (hbox); have n6_ := ak ((by rw [hg]; exact (below_size lb) : w.heap.size ≤ gb520)); have n7_ := ak ((by rw [hg]; exact (below_size lb) : w.heap.size ≤ gb520)); have n8_ := ak ((by rw [hg]; exact Nat.ne_of_lt (blk_lt (g := gb516) (o := .cells #[.int .i64 a0_0, .slice (some ad519) l0_1.length c0_1] 24 (0, 0)) (bx BK516.out)) : gb516 ≠ gb520)); have n9_ := ak ((by rw [hg]; exact Nat.ne_of_gt (blk_lt (g := gb516) (o := .cells #[.int .i64 a0_0, .slice (some ad519) l0_1.length c0_1] 24 (0, 0)) (bx BK516.out)) : gb520 ≠ gb516)); have n10_ := ak ((by rw [hg]; exact Nat.ne_of_lt (blk_lt (g := gb517) (o := .cells #[.int .i64 0, .slice none 0 0] 24 (0, 0)) (bx BK517.out)) : gb517 ≠ gb520)); have n11_ := ak ((by rw [hg]; exact Nat.ne_of_gt (blk_lt (g := gb517) (o := .cells #[.int .i64 0, .slice none 0 0] 24 (0, 0)) (bx BK517.out)) : gb520 ≠ gb517)); have n12_ := ak ((by rw [hg]; exact Nat.ne_of_lt (blk_lt (g := gb518) (o := .cells #[.int .i64 a0_0, u519001] 24 (0, 0)) (bx BK518.out)) : gb518 ≠ gb520)); have n13_ := ak ((by rw [hg]; exact Nat.ne_of_gt (blk_lt (g := gb518) (o := .cells #[.int .i64 a0_0, u519001] 24 (0, 0)) (bx BK518.out)) : gb520 ≠ gb518)); clear HO_519001; clear BK516; clear BK517; clear BK518; clear HB; have HO_519001 := n0_; have BK516 := n1_; have BK517 := n2_; have BK518 := n3_; have HB := n4_; have BK520 := n5_; have GW520 := n6_; have GE520 := n7_; have NB516_520 := n8_; have NB520_516 := n9_; have NB517_520 := n10_; have NB520_517 := n11_; have NB518_520 := n12_; have NB520_518 := n13_; clear n0_ n1_ n2_ n3_ n4_ n5_ n6_ n7_ n8_ n9_ n10_ n11_ n12_ n13_; clear hb hbox hg; have hnb17 := NB520_516.out; have hnc17 := NB516_520.out; have hnb18 := NB520_517.out; have hnc18 := NB517_520.out; have hnb19 := NB520_518.out; have hnc19 := NB518_520.out; have hcz20_0 : w16.cell? ⟨gb520, 0, none⟩ = some (.int .i64 0) := (blk_cell BK520.out 0).trans rfl; have hcz20_1 : w16.cell? ⟨gb520, 1, none⟩ = some (.int .i64 0) := (blk_cell BK520.out 1).trans rfl; have hcz20_2 : w16.cell? ⟨gb520, 2, none⟩ = some (.int .i64 0) := (blk_cell BK520.out 2).trans rfl; have hcz20_3 : w16.cell? ⟨gb520, 3, none⟩ = some (.int .i64 0) := (blk_cell BK520.out 3).trans rfl; have hfz20_0 := blk_frozen BK520.out 0; have hfz20_1 := blk_frozen BK520.out 1; have hfz20_2 := blk_frozen BK520.out 2; have hfz20_3 := blk_frozen BK520.out 3; have hnb21 := NB518_517.out; have hnc21 := NB517_518.out; have hcz22_0 : w16.cell? ⟨gb518, 0, none⟩ = some (.int .i64 a0_0) := (blk_cell BK518.out 0).trans rfl; have hcz22_1 : w16.cell? ⟨gb518, 1, none⟩ = some (u519001) := (blk_cell BK518.out 1).trans rfl; have hfz22_0 := blk_frozen BK518.out 0; have hfz22_1 := blk_frozen BK518.out 1) | ((with_reducible refine gate_builtin (b := .append) (xs := #[.tmp 22, .tmp 32]) rfl ?_); at_builtin; refine Kd.R_append k39 (w0 := w) w.heap.size rfl (.tmp 22) (.tmp 32) 22 39 (.agg #[(.int .i64 0), (.int .i64 0), (.int .i64 0), (.int .i64 0)]) 32 rfl Try.underlying22 info39 rfl (by decide) (by omega) u519001 x519001_1 (⟨(rd_T39 l0_1 x4_1).f1, (rd_T39 l0_1 x4_1).f0, (rd_T39 l0_1 x4_1).f2, (rd_T39 l0_1 x4_1).f3⟩ : S39) [.int .i64 ((rd_T39 l0_1 x4_1).f1), .int .i64 ((rd_T39 l0_1 x4_1).f0), .int .i64 ((rd_T39 l0_1 x4_1).f2), .int .i64 ((rd_T39 l0_1 x4_1).f3)] (fun k_ => k_ ≠ gb520) (fun _ => False) rfl (by first | (go_simp; done) | (go_simp; rfl)) ?aP (fun _ hk => hk.elim) ?aF ?aO ?aB ?aS ?aL ?_; (case aP => exact k39_mkM _ _ _ (⟨(rd_T39 l0_1 x4_1).f1, (rd_T39 l0_1 x4_1).f0, (rd_T39 l0_1 x4_1).f2, (rd_T39 l0_1 x4_1).f3⟩ : S39)); (case aB => exact lb); (case aF => exact (fun k_ hk => Kd.freshB (g := gb520) (o := .cells #[.int .i64 ((rd_T39 l0_1 x4_1).f0), .int .i64 ((rd_T39 l0_1 x4_1).f1), .int .i64 ((rd_T39 l0_1 x4_1).f2), .int .i64 ((rd_T39 l0_1 x4_1).f3)] 39 (0, 0)) (by (with_reducible repeat (first | refine blk_drewN ?_ _ | refine blk_drew ?_ | refine blk_alloc ?_ _)); refine blk_put (cs := #[.int .i64 ((rd_T39 l0_1 x4_1).f0), .int .i64 ((rd_T39 l0_1 x4_1).f1), .int .i64 ((rd_T39 l0_1 x4_1).f2), .int .i64 0]) ?_ 3 _ rfl; (with_reducible repeat (first | refine blk_drewN ?_ _ | refine blk_drew ?_ | refine blk_alloc ?_ _)); refine blk_put (cs := #[.int .i64 ((rd_T39 l0_1 x4_1).f0), .int .i64 ((rd_T39 l0_1 x4_1).f1), .int .i64 0, .int .i64 0]) ?_ 2 _ rfl; (with_reducible repeat (first | refine blk_drewN ?_ _ | refine blk_drew ?_ | refine blk_alloc ?_ _)); refine blk_put (cs := #[.int .i64 ((rd_T39 l0_1 x4_1).f0), .int .i64 0, .int .i64 0, .int .i64 0]) ?_ 1 _ rfl; (with_reducible repeat (first | refine blk_drewN ?_ _ | refine blk_drew ?_ | refine blk_alloc ?_ _)); refine blk_put (cs := #[.int .i64 0, .int .i64 0, .int .i64 0, .int .i64 0]) ?_ 0 _ rfl; exact bx BK520.out) k_ hk)); (case aO => exact (by exact rx (Kd.R_mono (Kd.R_far (p := ⟨gb520, 3, none⟩) (Kd.R_far (p := ⟨gb520, 2, none⟩) (Kd.R_far (p := ⟨gb520, 1, none⟩) (Kd.R_far (p := ⟨gb520, 0, none⟩) (Kd.R_mono HO_519001.out (fun k_ hk => (⟨hk, hk.2⟩ : _ ∧ k_ ≠ gb520))) (fun _ hk => hk.2) (.int .i64 ((rd_T39 l0_1 x4_1).f0))) (fun _ hk => hk.2) (.int .i64 ((rd_T39 l0_1 x4_1).f1))) (fun _ hk => hk.2) (.int .i64 ((rd_T39 l0_1 x4_1).f2))) (fun _ hk => hk.2) (.int .i64 ((rd_T39 l0_1 x4_1).f3))) (fun _ hk => hk.1.2)))); (case aS => exact (below_size lb)); (case aL => have := LMc12.out; omega); intro v522 w23 ho hb hg hat; rw [← Ny521.out] at ho; have n0_ := ak (blk_grown (g := gb516) (o := .cells #[.int .i64 a0_0, .slice (some ad519) l0_1.length c0_1] 24 (0, 0)) (by (with_reducible repeat (first | refine blk_drewN ?_ _ | refine blk_drew ?_ | refine blk_alloc ?_ _)); refine blk_far ?_ NB516_520.out _; (with_reducible repeat (first | refine blk_drewN ?_ _ | refine blk_drew ?_ | refine blk_alloc ?_ _)); refine blk_far ?_ NB516_520.out _; (with_reducible repeat (first | refine blk_drewN ?_ _ | refine blk_drew ?_ | refine blk_alloc ?_ _)); refine blk_far ?_ NB516_520.out _; (with_reducible repeat (first | refine blk_drewN ?_ _ | refine blk_drew ?_ | refine blk_alloc ?_ _)); refine blk_far ?_ NB516_520.out _; exact bx BK516.out) hg (Kd.R_ne HO_519001.out BK516.out (by decide))); have n1_ := ak (blk_grown (g := gb517) (o := .cells #[.int .i64 0, .slice none 0 0] 24 (0, 0)) (by (with_reducible repeat (first | refine blk_drewN ?_ _ | refine blk_drew ?_ | refine blk_alloc ?_ _)); refine blk_far ?_ NB517_520.out _; (with_reducible repeat (first | refine blk_drewN ?_ _ | refine blk_drew ?_ | refine blk_alloc ?_ _)); refine blk_far ?_ NB517_520.out _; (with_reducible repeat (first | refine blk_drewN ?_ _ | refine blk_drew ?_ | refine blk_alloc ?_ _)); refine blk_far ?_ NB517_520.out _; (with_reducible repeat (first | refine blk_drewN ?_ _ | refine blk_drew ?_ | refine blk_alloc ?_ _)); refine blk_far ?_ NB517_520.out _; exact bx BK517.out) hg (Kd.R_ne HO_519001.out BK517.out (by decide))); have n2_ := ak (blk_grown (g := gb518) (o := .cells #[.int .i64 a0_0, u519001] 24 (0, 0)) (by (with_reducible repeat (first | refine blk_drewN ?_ _ | refine blk_drew ?_ | refine blk_alloc ?_ _)); refine blk_far ?_ NB518_520.out _; (with_reducible repeat (first | refine blk_drewN ?_ _ | refine blk_drew ?_ | refine blk_alloc ?_ _)); refine blk_far ?_ NB518_520.out _; (with_reducible repeat (first | refine blk_drewN ?_ _ | refine blk_drew ?_ | refine blk_alloc ?_ _)); refine blk_far ?_ NB518_520.out _; (with_reducible repeat (first | refine blk_drewN ?_ _ | refine blk_drew ?_ | refine blk_alloc ?_ _)); refine blk_far ?_ NB518_520.out _; exact bx BK518.out) hg (Kd.R_ne HO_519001.out BK518.out (by decide))); have n3_ := ak (blk_grown (g := gb520) (o := .cells #[.int .i64 ((rd_T39 l0_1 x4_1).f0), .int .i64 ((rd_T39 l0_1 x4_1).f1), .int .i64 ((rd_T39 l0_1 x4_1).f2), .int .i64 ((rd_T39 l0_1 x4_1).f3)] 39 (0, 0)) (by (with_reducible repeat (first | refine blk_drewN ?_ _ | refine blk_drew ?_ | refine blk_alloc ?_ _)); refine blk_put (cs := #[.int .i64 ((rd_T39 l0_1 x4_1).f0), .int .i64 ((rd_T39 l0_1 x4_1).f1), .int .i64 ((rd_T39 l0_1 x4_1).f2), .int .i64 0]) ?_ 3 _ rfl; (with_reducible repeat (first | refine blk_drewN ?_ _ | refine blk_drew ?_ | refine blk_alloc ?_ _)); refine blk_put (cs := #[.int .i64 ((rd_T39 l0_1 x4_1).f0), .int .i64 ((rd_T39 l0_1 x4_1).f1), .int .i64 0, .int .i64 0]) ?_ 2 _ rfl; (with_reducible repeat (first | refine blk_drewN ?_ _ | refine blk_drew ?_ | refine blk_alloc ?_ _)); refine blk_put (cs := #[.int .i64 ((rd_T39 l0_1 x4_1).f0), .int .i64 0, .int .i64 0, .int .i64 0]) ?_ 1 _ rfl; (with_reducible repeat (first | refine blk_drewN ?_ _ | refine blk_drew ?_ | refine blk_alloc ?_ _)); refine blk_put (cs := #[.int .i64 0, .int .i64 0, .int .i64 0, .int .i64 0]) ?_ 0 _ rfl; exact bx BK520.out) hg (Kd.R_away HO_519001.out (fun _ hk => hk.2))); have n4_ := ak (hb); have n5_ := ak (ho); clear BK516; clear BK517; clear BK518; clear BK520; clear HB; clear HO_519001; have BK516 := n0_; have BK517 := n1_; have BK518 := n2_; have BK520 := n3_; have HB := n4_; have HO523 := n5_; clear n0_ n1_ n2_ n3_ n4_ n5_; clear ho hb hg hat; obtain ⟨Ao24, co24, eo24⟩ := Kd.R_slice HO523.out; subst eo24; have hcz25_0 : w23.cell? ⟨gb518, 0, none⟩ = some (.int .i64 a0_0) := (blk_cell BK518.out 0).trans rfl; have hcz25_1 : w23.cell? ⟨gb518, 1, none⟩ = some (u519001) := (blk_cell BK518.out 1).trans rfl; have hfz25_0 := blk_frozen BK518.out 0; have hfz25_1 := blk_frozen BK518.out 1))
    go_roundg k1
    case measure => have := HK1.out; omega
    case rel => exact ⟨(wrap64 (x4_1 + 1)), (y521), (.slice Ao24 y521.length co24), (by first | rfl | (simp [*]; done)), H', ⟨by have := HK1.out; omega⟩, ⟨by exact rx (Kd.R_mono (Kd.R_far (p := ⟨gb518, 1, none⟩) (Kd.R_types HO523.out BK518.out (by decide)) (fun _ hk => hk.2) (.slice Ao24 y521.length co24)) (fun _ hk => trivial))⟩, ⟨by (with_reducible repeat (first | refine blk_drewN ?_ _ | refine blk_drew ?_ | refine blk_alloc ?_ _)); refine blk_far ?_ NB516_518.out _; exact bx BK516.out⟩, ⟨by (with_reducible repeat (first | refine blk_drewN ?_ _ | refine blk_drew ?_ | refine blk_alloc ?_ _)); refine blk_far ?_ NB517_518.out _; exact bx BK517.out⟩, ⟨by (with_reducible repeat (first | refine blk_drewN ?_ _ | refine blk_drew ?_ | refine blk_alloc ?_ _)); refine blk_put (cs := #[.int .i64 a0_0, u519001]) ?_ 1 _ rfl; exact bx BK518.out⟩, ⟨lb⟩⟩
   ·
    rw [if_neg c10] at H
    have c10b0 : decide (x4_1 < (l0_1.length : Int)) = false := decide_eq_false c10
    clear c10
    simp only [Option.some.injEq, Prod.mk.injEq] at H
    obtain ⟨rfl, rfl⟩ := H
    have hnb26 := NB516_517.out
    have hnc26 := NB517_516.out
    have hnb27 := NB516_518.out
    have hnc27 := NB518_516.out
    have hcz28_0 : wr.cell? ⟨gb516, 0, none⟩ = some (.int .i64 a0_0) := (blk_cell BK516.out 0).trans rfl
    have hcz28_1 : wr.cell? ⟨gb516, 1, none⟩ = some (.slice A0_1 l0_1.length c0_1) := (blk_cell BK516.out 1).trans rfl
    have hfz28_0 := blk_frozen BK516.out 0
    have hfz28_1 := blk_frozen BK516.out 1
    have hnb29 := NB518_517.out
    have hnc29 := NB517_518.out
    have hcz30_0 : wr.cell? ⟨gb518, 0, none⟩ = some (.int .i64 a0_0) := (blk_cell BK518.out 0).trans rfl
    have hcz30_1 : wr.cell? ⟨gb518, 1, none⟩ = some (u519001) := (blk_cell BK518.out 1).trans rfl
    have hfz30_0 := blk_frozen BK518.out 0
    have hfz30_1 := blk_frozen BK518.out 1
    have hcz31_0 : wr.cell? ⟨gb517, 0, none⟩ = some (.int .i64 0) := (blk_cell BK517.out 0).trans rfl
    have hcz31_1 : wr.cell? ⟨gb517, 1, none⟩ = some (.slice none 0 0) := (blk_cell BK517.out 1).trans rfl
    have hfz31_0 := blk_frozen BK517.out 0
    have hfz31_1 := blk_frozen BK517.out 1
    obtain ⟨Ao32, co32, eo32⟩ := Kd.R_slice HO_519001.out
    subst eo32
    go_wp2
    refine bodyPost_ret (results_cell_row rfl _ _ gb517 24 #[.int .i64 a0_0, .slice Ao32 x519001_1.length co32] (0, 0) _ rfl (by (with_reducible repeat (first | refine blk_drewN ?_ _ | refine blk_drew ?_ | refine blk_alloc ?_ _)); refine blk_put (cs := #[.int .i64 a0_0, .slice none 0 0]) ?_ 1 _ rfl; (with_reducible repeat (first | refine blk_drewN ?_ _ | refine blk_drew ?_ | refine blk_alloc ?_ _)); refine blk_put (cs := #[.int .i64 0, .slice none 0 0]) ?_ 0 _ rfl; exact bx BK517.out) Try.underlying24 rfl (by kernel_rfl)) rfl ?_
    exact ⟨_, by first | rfl | (simp [errW_none, errW_some] <;> rfl) | (simp [*, errW_none, errW_some] <;> rfl), by exact rx (Kd.R_mono (Kd.R_far (p := ⟨gb517, 1, none⟩) (Kd.R_far (p := ⟨gb517, 0, none⟩) (Kd.R_types HO_519001.out BK517.out (by decide)) (fun _ hk => hk.2) (.int .i64 a0_0)) (fun _ hk => hk.2) (.slice Ao32 x519001_1.length co32)) (fun _ hk => trivial)), lb⟩


end Go.Proofs.Ytpmclhkednehhaa.Q
