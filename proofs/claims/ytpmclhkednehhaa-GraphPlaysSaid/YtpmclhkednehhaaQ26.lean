-- PRINTED by print.py (a twelfth state) out of the translation. Not trusted: Lean checks it.
import Derived.Test.YtpmclhkednehhaaQ0
namespace Go.Proofs.Ytpmclhkednehhaa.Q
open Go.RowKit Go.Proofs.YtpmclhkednehhaaW.PrintWords Go.Proofs.YtpmclhkednehhaaW.PrintLast Go.Proofs.YtpmclhkednehhaaW.PrintMore
attribute [local go_sem] max2_int min2_int max_two min_two max_three min_three max_four min_four   -- for this text's walks alone
set_option linter.unusedVariables false
set_option linter.unusedSimpArgs false

/-! ### compassref03_Copy: function 27 -/
def compassref03_Copy.l0 : Nat → Int → Int → List (S39) → Int → List (S39) → Option (Int × (List (S39)))
  | 0, _, _, _, _, _ => none
  | k + 1, x4, x569000, x569001, x571000, x571001 => if x4 < (x569001.length : Int) then (if 0 ≤ x4 then (if x571001.length < 4398046511104 then (compassref03_Copy.l0 k (wrap64 (x4 + 1)) x569000 x569001 x571000 (x571001 ++ [(⟨(rd_T39 x569001 x4).f0, (rd_T39 x569001 x4).f1, (rd_T39 x569001 x4).f2, (rd_T39 x569001 x4).f3⟩ : S39)])) else (none)) else (none)) else (some (x571000, x571001))
def compassref03_Copy.f (k : Nat) (a0_0 : Int) (l0_1 : List (S39)) : Option (Int × (List (S39))) := compassref03_Copy.l0 k 0 a0_0 l0_1 a0_0 ([] : List (S39))
theorem compassref03_Copy.mono_l : ∀ k, (∀ y0 y1 y2 y3 y4, LeO (compassref03_Copy.l0 k y0 y1 y2 y3 y4) (compassref03_Copy.l0 (k + 1) y0 y1 y2 y3 y4))
  | 0 => fun _ _ _ _ _ r h => by simp [compassref03_Copy.l0] at h
  | k + 1 => by
    have ih0 := compassref03_Copy.mono_l k
    · intro y0 y1 y2 y3 y4
      unfold compassref03_Copy.l0
      repeat' first
      | (with_reducible exact ih0 _ _ _ _ _)
      | (with_reducible exact LeO.refl _)
      | (with_reducible exact LeO.none _)
      | (with_reducible refine LeO.ite ?_ ?_)
      | (with_reducible refine LeO.bind ?_ (fun _ => ?_))
      | exact ih0 _ _ _ _ _
      | exact LeO.none _
      | refine LeO.ite ?_ ?_
      | refine LeO.bind ?_ (fun _ => ?_)
theorem compassref03_Copy.mono : ∀ a0 a1 k, LeO (compassref03_Copy.f k a0 a1) (compassref03_Copy.f (k + 1) a0 a1) := by
  intro a0 a1 k
  have ih0 := compassref03_Copy.mono_l k
  unfold compassref03_Copy.f
  repeat' first
      | (with_reducible exact ih0 _ _ _ _ _)
      | (with_reducible exact LeO.refl _)
      | (with_reducible exact LeO.none _)
      | (with_reducible refine LeO.ite ?_ ?_)
      | (with_reducible refine LeO.bind ?_ (fun _ => ?_))
      | exact ih0 _ _ _ _ _
      | exact LeO.none _
      | refine LeO.ite ?_ ?_
      | refine LeO.bind ?_ (fun _ => ?_)
def compassref03_Copy.T5 : Bool × List (List Nat × List Nat) := (true, [([], []), ([0], [0]), ([], []), ([2], [2]), ([], []), ([3, 4], [3, 4]), ([5], [5]), ([6], [6]), ([1, 7], [1, 7]), ([0, 1, 2, 3, 4, 5, 6, 7, 8], []), ([9, 8, 8, 0, 1, 2, 3, 4, 5, 6, 7, 8], [8, 9])])
def compassref03_Copy.B5 : List Nat := [0, 1, 0, 4, 0, 28, 60, 124, 255, 511, 1023]
theorem compassref03_Copy.tab5 : rtab .any (opsOf Try.f15 5) = compassref03_Copy.T5 := by kernel_rfl
theorem compassref03_Copy.bits5 : waitsOk compassref03_Copy.T5.2 compassref03_Copy.B5 = true := by kernel_rfl
set_option maxHeartbeats 8000000 in
set_option maxRecDepth 100000 in
theorem compassref03_Copy.calls (k : Nat) (a0_0 : Int) (A0_1 : Option Addr) (c0_1 : Nat) (l0_1 : List (S39)) (r1 : Int) (r2 : List (S39)) (w : World) (hr0_1 : Kd.C k39 w A0_1 l0_1.length l0_1) (hc0_1 : l0_1.length ≤ c0_1) (h : compassref03_Copy.f k a0_0 l0_1 = some (r1, r2)) :
    Calls Try.prog 15 #[.agg #[.int .i64 a0_0, .slice A0_1 l0_1.length c0_1]] w fun e w' => ∃ v1_ : Value, e = .returned (.agg #[.int .i64 r1, v1_]) ∧ Kd.R k39 39 w' w.heap.size (fun _ => True) v1_ r2 ∧ Below w.heap.size w w' := by
 have hu24 := Try.underlying24
 have hu41 := Try.underlying39
 have HR0_1 := ak hr0_1
 have HC0_1 := ak hc0_1
 clear hr0_1 hc0_1
 have HB := ak (Below.refl w.heap.size w)
 have H : (compassref03_Copy.l0 k 0 a0_0 l0_1 a0_0 ([] : List (S39))) = some (r1, r2) := h
 clear h
 have H' := ak H
 clear H
 go_enter Try.func15, Try.ntmps15
 go_wp2_with (first | ((with_reducible refine gate_dst (N := 1) rfl ?_); refine box_event ?hg (N := 1) ?hd (cs := #[.int .i64 a0_0, .slice A0_1 l0_1.length c0_1]) (t := 24) ?hr ?_; (case hd => rfl); (case hg => rfl); (case hr => first | (go_simp; done) | (go_simp; rfl)); intro gb568 hg w2 hbox hb; have n0_ := ak (below_step lb hb); have n1_ := ak (hbox); have n2_ := ak ((by rw [hg]; exact (below_size lb) : w.heap.size ≤ gb568)); have n3_ := ak ((by rw [hg]; exact (below_size lb) : w.heap.size ≤ gb568)); clear HB; have HB := n0_; have BK568 := n1_; have GW568 := n2_; have GE568 := n3_; clear n0_ n1_ n2_ n3_; clear hb hbox hg) | ((with_reducible refine gate_dst (N := 2) rfl ?_); refine box_event ?hg (N := 2) ?hd (cs := #[.int .i64 0, .slice none 0 0]) (t := 24) ?hr ?_; (case hd => rfl); (case hg => rfl); (case hr => first | (go_simp; done) | (go_simp; rfl)); intro gb569 hg w3 hbox hb; have n0_ := ak (blk_below (bx BK568.out) hb); have n1_ := ak (below_step lb hb); have n2_ := ak (hbox); have n3_ := ak ((by rw [hg]; exact (below_size lb) : w.heap.size ≤ gb569)); have n4_ := ak ((by rw [hg]; exact (below_size lb) : w.heap.size ≤ gb569)); have n5_ := ak ((by rw [hg]; exact Nat.ne_of_lt (blk_lt (g := gb568) (o := .cells #[.int .i64 a0_0, .slice A0_1 l0_1.length c0_1] 24 (0, 0)) (bx BK568.out)) : gb568 ≠ gb569)); have n6_ := ak ((by rw [hg]; exact Nat.ne_of_gt (blk_lt (g := gb568) (o := .cells #[.int .i64 a0_0, .slice A0_1 l0_1.length c0_1] 24 (0, 0)) (bx BK568.out)) : gb569 ≠ gb568)); clear BK568; clear HB; have BK568 := n0_; have HB := n1_; have BK569 := n2_; have GW569 := n3_; have GE569 := n4_; have NB568_569 := n5_; have NB569_568 := n6_; clear n0_ n1_ n2_ n3_ n4_ n5_ n6_; clear hb hbox hg; have hnb4 := NB568_569.out; have hnc4 := NB569_568.out; have hcz5_0 : w3.cell? ⟨gb568, 0, none⟩ = some (.int .i64 a0_0) := (blk_cell BK568.out 0).trans rfl; have hcz5_1 : w3.cell? ⟨gb568, 1, none⟩ = some (.slice A0_1 l0_1.length c0_1) := (blk_cell BK568.out 1).trans rfl; have hfz5_0 := blk_frozen BK568.out 0; have hfz5_1 := blk_frozen BK568.out 1) | ((with_reducible refine gate_dst (N := 3) rfl ?_); refine box_event ?hg (N := 3) ?hd (cs := #[.int .i64 0, .slice none 0 0]) (t := 24) ?hr ?_; (case hd => rfl); (case hg => rfl); (case hr => first | (go_simp; done) | (go_simp; rfl)); intro gb570 hg w6 hbox hb; have n0_ := ak (blk_below (bx BK568.out) hb); have n1_ := ak (blk_below (bx BK569.out) hb); have n2_ := ak (below_step lb hb); have n3_ := ak (hbox); have n4_ := ak ((by rw [hg]; exact (below_size lb) : w.heap.size ≤ gb570)); have n5_ := ak ((by rw [hg]; exact (below_size lb) : w.heap.size ≤ gb570)); have n6_ := ak ((by rw [hg]; exact Nat.ne_of_lt (blk_lt (g := gb568) (o := .cells #[.int .i64 a0_0, .slice A0_1 l0_1.length c0_1] 24 (0, 0)) (bx BK568.out)) : gb568 ≠ gb570)); have n7_ := ak ((by rw [hg]; exact Nat.ne_of_gt (blk_lt (g := gb568) (o := .cells #[.int .i64 a0_0, .slice A0_1 l0_1.length c0_1] 24 (0, 0)) (bx BK568.out)) : gb570 ≠ gb568)); have n8_ := ak ((by rw [hg]; exact Nat.ne_of_lt (blk_lt (g := gb569) (o := .cells #[.int .i64 0, .slice none 0 0] 24 (0, 0)) (bx BK569.out)) : gb569 ≠ gb570)); have n9_ := ak ((by rw [hg]; exact Nat.ne_of_gt (blk_lt (g := gb569) (o := .cells #[.int .i64 0, .slice none 0 0] 24 (0, 0)) (bx BK569.out)) : gb570 ≠ gb569)); clear BK568; clear BK569; clear HB; have BK568 := n0_; have BK569 := n1_; have HB := n2_; have BK570 := n3_; have GW570 := n4_; have GE570 := n5_; have NB568_570 := n6_; have NB570_568 := n7_; have NB569_570 := n8_; have NB570_569 := n9_; clear n0_ n1_ n2_ n3_ n4_ n5_ n6_ n7_ n8_ n9_; clear hb hbox hg; have hnb7 := NB570_568.out; have hnc7 := NB568_570.out; have hnb8 := NB570_569.out; have hnc8 := NB569_570.out; have hcz9_0 : w6.cell? ⟨gb570, 0, none⟩ = some (.int .i64 0) := (blk_cell BK570.out 0).trans rfl; have hcz9_1 : w6.cell? ⟨gb570, 1, none⟩ = some (.slice none 0 0) := (blk_cell BK570.out 1).trans rfl; have hfz9_0 := blk_frozen BK570.out 0; have hfz9_1 := blk_frozen BK570.out 1))
 go_loopg [4] k (fun kq v4 w' => ∃ (x4_1 : Int) (x571001_1 : List (S39)) (u571001 : Value), v4 = .int .i64 x4_1 ∧ Aside0 (compassref03_Copy.l0 kq x4_1 a0_0 l0_1 a0_0 x571001_1 = some (r1, r2)) ∧ Aside0 (kq ≤ k) ∧ Aside0 (Kd.R k39 39 w' w.heap.size (fun _ => True) u571001 x571001_1) ∧ Aside0 (w'.heap[gb568]? = some (.cells #[.int .i64 a0_0, (.slice A0_1 l0_1.length c0_1)] 24 (0, 0))) ∧ Aside0 (w'.heap[gb569]? = some (.cells #[.int .i64 0, (.slice none 0 0)] 24 (0, 0))) ∧ Aside0 (w'.heap[gb570]? = some (.cells #[.int .i64 a0_0, u571001] 24 (0, 0))) ∧ Aside0 (Below w.heap.size w w'))
 case atStart => exact ⟨(0), (([] : List (S39))), (.slice none 0 0), (by first | rfl | (simp [*]; done)), H', ⟨Nat.le_refl _⟩, ⟨by first | exact Kd.R_nil _ _ _ _ _ | exact Kd.N_nil _ _ _ _ _ | exact Kd.V_nil _ _ _ _ _ | exact Kd.Q_nil _ _ _ _ _ | exact Kd.S_nil _ _ _ _ _⟩, ⟨by (with_reducible repeat (first | refine blk_drewN ?_ _ | refine blk_drew ?_ | refine blk_alloc ?_ _)); refine blk_far ?_ NB568_570.out _; (with_reducible repeat (first | refine blk_drewN ?_ _ | refine blk_drew ?_ | refine blk_alloc ?_ _)); refine blk_far ?_ NB568_570.out _; exact bx BK568.out⟩, ⟨by (with_reducible repeat (first | refine blk_drewN ?_ _ | refine blk_drew ?_ | refine blk_alloc ?_ _)); refine blk_far ?_ NB569_570.out _; (with_reducible repeat (first | refine blk_drewN ?_ _ | refine blk_drew ?_ | refine blk_alloc ?_ _)); refine blk_far ?_ NB569_570.out _; exact bx BK569.out⟩, ⟨by (with_reducible repeat (first | refine blk_drewN ?_ _ | refine blk_drew ?_ | refine blk_alloc ?_ _)); refine blk_put (cs := #[.int .i64 a0_0, .slice none 0 0]) ?_ 1 _ rfl; (with_reducible repeat (first | refine blk_drewN ?_ _ | refine blk_drew ?_ | refine blk_alloc ?_ _)); refine blk_put (cs := #[.int .i64 0, .slice none 0 0]) ?_ 0 _ rfl; exact bx BK570.out⟩, ⟨lb⟩⟩
 case round =>
  clear H'
  try clear c2; try clear p2; try clear c4; try clear c7; try clear c8; try clear hcz5_0; try clear hcz5_1; try clear hcz9_0; try clear hcz9_1; try clear hfz5_0; try clear hfz5_1; try clear hfz9_0; try clear hfz9_1
  obtain ⟨x4_1, x571001_1, u571001, rfl, HA, HK1, HO_571001, BK568, BK569, BK570, HB⟩ := hrel
  cases gk with
  | zero => exact absurd HA.out (by simp [compassref03_Copy.l0])
  | succ k1 =>
   have H := HA.out
   clear HA
   simp only [compassref03_Copy.l0] at H
   by_cases c10 : x4_1 < (l0_1.length : Int)
   ·
    rw [if_pos c10] at H
    have c10b0 : decide (x4_1 < (l0_1.length : Int)) = true := decide_eq_true c10
    clear c10
    by_cases c11 : 0 ≤ x4_1
    rotate_left
    ·
     rw [if_neg c11] at H
     exact absurd H (by simp)
    rw [if_pos c11] at H
    have c11b0 : decide (0 ≤ x4_1) = true := decide_eq_true c11
    clear c11
    by_cases c12 : x571001_1.length < 4398046511104
    rotate_left
    ·
     rw [if_neg c12] at H
     exact absurd H (by simp)
    rw [if_pos c12] at H
    have LMc12 := ak c12
    clear c12
    obtain ⟨y572, hy572⟩ : ∃ y_ : List (S39), y_ = (x571001_1 ++ [(⟨(rd_T39 l0_1 x4_1).f0, (rd_T39 l0_1 x4_1).f1, (rd_T39 l0_1 x4_1).f2, (rd_T39 l0_1 x4_1).f3⟩ : S39)]) := ⟨_, rfl⟩
    replace H : (compassref03_Copy.l0 k1 (wrap64 (x4_1 + 1)) a0_0 l0_1 a0_0 y572) = some (r1, r2) := by first | (rw [hy572]; exact H) | exact H
    have Ny572 := ak hy572
    clear hy572
    have H' := ak H
    clear H
    have hnb13 := NB568_569.out
    have hnc13 := NB569_568.out
    have hnb14 := NB568_570.out
    have hnc14 := NB570_568.out
    have hcz15_0 : wr.cell? ⟨gb568, 0, none⟩ = some (.int .i64 a0_0) := (blk_cell BK568.out 0).trans rfl
    have hcz15_1 : wr.cell? ⟨gb568, 1, none⟩ = some (.slice A0_1 l0_1.length c0_1) := (blk_cell BK568.out 1).trans rfl
    have hfz15_0 := blk_frozen BK568.out 0
    have hfz15_1 := blk_frozen BK568.out 1
    try go_wp2
    have n0_ := ak (Kd.R_drew HO_571001.out)
    have n1_ := ak (blk_drew BK568.out)
    have n2_ := ak (blk_drew BK569.out)
    have n3_ := ak (blk_drew BK570.out)
    have n4_ := ak (below_drew1 HB.out)
    clear HO_571001
    clear BK568
    clear BK569
    clear BK570
    clear HB
    have HO_571001 := n0_
    have BK568 := n1_
    have BK569 := n2_
    have BK570 := n3_
    have HB := n4_
    clear n0_ n1_ n2_ n3_ n4_
    have p571 : 0 ≤ (x4_1 : Int) := oda
    have q571 : x4_1 < (l0_1.length : Int) := oda
    obtain ⟨ad571, e571, hx571_0, hx571_1, hx571_2, hx571_3⟩ := at_T39 HR0_1.out x4_1 p571 q571
    have hw571_3 := hx571_3
    have hw571_2 := hx571_2
    have hw571_1 := hx571_1
    have hw571_0 := hx571_0
    cases e571
    (try replace hx571_0 := (HB.out.cell (World.block_lt_of_cell? w _ hx571_0)).trans hx571_0)
    (try replace hx571_1 := (HB.out.cell (World.block_lt_of_cell? w _ hx571_1)).trans hx571_1)
    (try replace hx571_2 := (HB.out.cell (World.block_lt_of_cell? w _ hx571_2)).trans hx571_2)
    (try replace hx571_3 := (HB.out.cell (World.block_lt_of_cell? w _ hx571_3)).trans hx571_3)
    replace p571 := eq_true p571
    replace q571 := eq_true q571
    refine start_ (n := 11) (S := fun w' => w'.cell? ⟨gb570, 0, none⟩ = some (.int .i64 a0_0) ∧ w'.cell? ⟨gb570, 1, none⟩ = some (u571001) ∧ w'.cell? ⟨gb568, 0, none⟩ = some (.int .i64 a0_0) ∧ w'.cell? ⟨gb568, 1, none⟩ = some (.slice (some ad571) l0_1.length c0_1) ∧ w'.cell? (ad571.add ((x4_1).toNat * 4)) = some (.int .i64 ((rd_T39 l0_1 x4_1).f0)) ∧ w'.cell? ⟨(ad571.add ((x4_1).toNat * 4)).block, (ad571.add ((x4_1).toNat * 4)).off + 1, none⟩ = some (.int .i64 ((rd_T39 l0_1 x4_1).f1)) ∧ w'.cell? ⟨(ad571.add ((x4_1).toNat * 4)).block, (ad571.add ((x4_1).toNat * 4)).off + 2, none⟩ = some (.int .i64 ((rd_T39 l0_1 x4_1).f2)) ∧ w'.cell? ⟨(ad571.add ((x4_1).toNat * 4)).block, (ad571.add ((x4_1).toNat * 4)).off + 3, none⟩ = some (.int .i64 ((rd_T39 l0_1 x4_1).f3))) (ds := [10]) #[false, false, false, false, false, false, false, false, false, false, false] (by kernel_rfl) rfl rfl ⟨(blk_cell BK570.out 0).trans rfl, (blk_cell BK570.out 1).trans rfl, (blk_cell BK568.out 0).trans rfl, (blk_cell BK568.out 1).trans rfl, ((HB.out.cell (World.block_lt_of_cell? w _ hw571_0)).trans hw571_0), ((HB.out.cell (World.block_lt_of_cell? w _ hw571_1)).trans hw571_1), ((HB.out.cell (World.block_lt_of_cell? w _ hw571_2)).trans hw571_2), ((HB.out.cell (World.block_lt_of_cell? w _ hw571_3)).trans hw571_3)⟩ (fun hHeld => ?_); refine with_tabW compassref03_Copy.tab5 compassref03_Copy.bits5 (fun HT_ HW_ => ?_)
    generalize wr.drew = w16 at HO_571001 BK568 BK569 BK570 HB hx571_0 hx571_1 hx571_2 hx571_3 hHeld ⊢
    refine pure_ (i := 0) (N := some 15) (v := ?_) (a' := ?_) #[true, false, false, false, false, false, false, false, false, false, false] rfl rfl (any_of HT_.out (by kernel_rfl)) (fun _ _ _ h => h) (Or.inl ⟨by rfl, ?_⟩) ?_ ?_; rotate_left; intro w'; go_simp; with_reducible rfl; rotate_left; simp only [Act.put, List.setIfInBounds_toArray, List.set_cons_zero, List.set_cons_succ, i64_w, i32_w]; rfl
    refine pure_ (i := 2) (N := some 17) (v := ?_) (a' := ?_) #[true, false, true, false, false, false, false, false, false, false, false] rfl rfl (any_of HT_.out (by kernel_rfl)) (fun _ _ _ h => h) (Or.inl ⟨by rfl, ?_⟩) ?_ ?_; rotate_left; intro w'; go_simp; with_reducible rfl; rotate_left; simp only [Act.put, List.setIfInBounds_toArray, List.set_cons_zero, List.set_cons_succ, i64_w, i32_w]; rfl
    refine pure_ (i := 4) (N := some 19) (v := ?_) (a' := ?_) #[true, false, true, false, true, false, false, false, false, false, false] rfl rfl (any_of HT_.out (by kernel_rfl)) (fun _ _ _ h => h) (Or.inl ⟨by rfl, ?_⟩) ?_ ?_; rotate_left; intro w'; go_simp; with_reducible rfl; rotate_left; simp only [Act.put, List.setIfInBounds_toArray, List.set_cons_zero, List.set_cons_succ, i64_w, i32_w]; rfl
    refine take_ (i := 1) (N := some 16) (v := ?_) (a' := ?_) #[true, true, true, false, true, false, false, false, false, false, false] rfl rfl (take_ofW HT_.out HW_.out (by kernel_rfl)) (fun _ _ _ h => h) (Or.inl ⟨by rfl, ?_⟩) hHeld ?_ ?_; rotate_left; rintro w' ⟨s0, s1, s2, s3, s4, s5, s6, s7⟩; go_simp; with_reducible rfl; rotate_left; simp only [Act.put, List.setIfInBounds_toArray, List.set_cons_zero, List.set_cons_succ, i64_w, i32_w]; rfl
    refine take_ (i := 3) (N := some 18) (v := ?_) (a' := ?_) #[true, true, true, true, true, false, false, false, false, false, false] rfl rfl (take_ofW HT_.out HW_.out (by kernel_rfl)) (fun _ _ _ h => h) (Or.inl ⟨by rfl, ?_⟩) hHeld ?_ ?_; rotate_left; rintro w' ⟨s0, s1, s2, s3, s4, s5, s6, s7⟩; go_simp; with_reducible rfl; rotate_left; simp only [Act.put, List.setIfInBounds_toArray, List.set_cons_zero, List.set_cons_succ, i64_w, i32_w]; rfl
    refine pure_ (i := 5) (N := some 20) (v := ?_) (a' := ?_) #[true, true, true, true, true, true, false, false, false, false, false] rfl rfl (any_of HT_.out (by kernel_rfl)) (fun _ _ _ h => h) (Or.inl ⟨by rfl, ?_⟩) ?_ ?_; rotate_left; intro w'; go_simp; with_reducible rfl; rotate_left; simp only [Act.put, List.setIfInBounds_toArray, List.set_cons_zero, List.set_cons_succ, i64_w, i32_w]; rfl
    refine take_ (i := 6) (N := some 21) (v := ?_) (a' := ?_) #[true, true, true, true, true, true, true, false, false, false, false] rfl rfl (take_ofW HT_.out HW_.out (by kernel_rfl)) (fun _ _ _ h => h) (Or.inl ⟨by rfl, ?_⟩) hHeld ?_ ?_; rotate_left; rintro w' ⟨s0, s1, s2, s3, s4, s5, s6, s7⟩; go_simp; with_reducible rfl; rotate_left; simp only [Act.put, List.setIfInBounds_toArray, List.set_cons_zero, List.set_cons_succ, i64_w, i32_w]; rfl
    refine one_ (i := 7) (N := some 22) #[true, true, true, true, true, true, true, true, false, false, false] rfl rfl (one_of HT_.out (by kernel_rfl)) (by decide) (fun K hK => ?_)
    refine value_ (w1 := ?_) (v := ?_) (by rfl) rfl ?_ ?_
    rotate_left 2
    ·
     go_simp
     constructor
     ·
      rfl
     ·
      rfl
    refine hK.out _ _ ⟨(blk_cell (blk_alloc BK570.out _) 0).trans rfl, (blk_cell (blk_alloc BK570.out _) 1).trans rfl, (blk_cell (blk_alloc BK568.out _) 0).trans rfl, (blk_cell (blk_alloc BK568.out _) 1).trans rfl, (World.cell?_alloc_lt _ _ _ (World.block_lt_of_cell? _ _ (((HB.out.cell (World.block_lt_of_cell? w _ hw571_0)).trans hw571_0)))).trans (((HB.out.cell (World.block_lt_of_cell? w _ hw571_0)).trans hw571_0)), (World.cell?_alloc_lt _ _ _ (World.block_lt_of_cell? _ _ (((HB.out.cell (World.block_lt_of_cell? w _ hw571_1)).trans hw571_1)))).trans (((HB.out.cell (World.block_lt_of_cell? w _ hw571_1)).trans hw571_1)), (World.cell?_alloc_lt _ _ _ (World.block_lt_of_cell? _ _ (((HB.out.cell (World.block_lt_of_cell? w _ hw571_2)).trans hw571_2)))).trans (((HB.out.cell (World.block_lt_of_cell? w _ hw571_2)).trans hw571_2)), (World.cell?_alloc_lt _ _ _ (World.block_lt_of_cell? _ _ (((HB.out.cell (World.block_lt_of_cell? w _ hw571_3)).trans hw571_3)))).trans (((HB.out.cell (World.block_lt_of_cell? w _ hw571_3)).trans hw571_3))⟩ (fun hHeld => ?_)
    clear hK K
    refine norm_ (a' := ?_) ?_ ?_
    rotate_left
    ·
     show Act.put _ (some 22) _ = _
     simp only [Act.put, List.setIfInBounds_toArray, List.set_cons_zero, List.set_cons_succ, i64_w, i32_w]
     rfl
    refine one_ (i := 8) (N := some 23) #[true, true, true, true, true, true, true, true, true, false, false] rfl rfl (one_of HT_.out (by kernel_rfl)) (by decide) (fun K hK => ?_)
    refine Kd.R_append_step k39 (w0 := w) w.heap.size (by rfl) (.tmp 16) (.tmp 22) 22 39 (.agg #[(.int .i64 0), (.int .i64 0), (.int .i64 0), (.int .i64 0)]) 32 rfl Try.underlying22 info39 rfl (by decide) (by omega) u571001 x571001_1 (⟨(rd_T39 l0_1 x4_1).f0, (rd_T39 l0_1 x4_1).f1, (rd_T39 l0_1 x4_1).f2, (rd_T39 l0_1 x4_1).f3⟩ : S39) [.int .i64 ((rd_T39 l0_1 x4_1).f0), .int .i64 ((rd_T39 l0_1 x4_1).f1), .int .i64 ((rd_T39 l0_1 x4_1).f2), .int .i64 ((rd_T39 l0_1 x4_1).f3)] (fun _ => True) (fun _ => False) rfl rfl ?aP (fun _ hk => hk.elim) ?aF ?aO ?aB ?aS ?aL ?_
    (case aP => exact k39_mkM _ _ _ (⟨(rd_T39 l0_1 x4_1).f0, (rd_T39 l0_1 x4_1).f1, (rd_T39 l0_1 x4_1).f2, (rd_T39 l0_1 x4_1).f3⟩ : S39))
    (case aB => exact lb)
    (case aF => exact (fun _ _ => trivial))
    (case aO => exact (rx HO_571001.out))
    (case aS => exact (below_size lb))
    (case aL => have := LMc12.out; omega)
    intro v573 w17 ho hb hg hat
    rw [← Ny572.out] at ho
    have n0_ := ak (blk_grown (bx BK568.out) hg (Kd.R_ne HO_571001.out BK568.out (by decide)))
    have n1_ := ak (blk_grown (bx BK569.out) hg (Kd.R_ne HO_571001.out BK569.out (by decide)))
    have n2_ := ak (blk_grown (bx BK570.out) hg (Kd.R_ne HO_571001.out BK570.out (by decide)))
    have n3_ := ak (hb)
    have n4_ := ak (ho)
    clear BK568
    clear BK569
    clear BK570
    clear HB
    clear HO_571001
    have BK568 := n0_
    have BK569 := n1_
    have BK570 := n2_
    have HB := n3_
    have HO574 := n4_
    clear n0_ n1_ n2_ n3_ n4_
    clear ho hb hg hat
    obtain ⟨Ao18, co18, eo18⟩ := Kd.R_slice HO574.out
    (first | subst eo18 | (injection eo18 with f1_ f2_ f3_; have f4_ := f1_.symm; have f5_ := f3_.symm; clear f1_ f2_ f3_; subst f4_; subst f5_))
    refine hK.out _ _ ⟨(blk_cell BK570.out 0).trans rfl, (blk_cell BK570.out 1).trans rfl, (blk_cell BK568.out 0).trans rfl, (blk_cell BK568.out 1).trans rfl, ((HB.out.cell (World.block_lt_of_cell? w _ hw571_0)).trans hw571_0), ((HB.out.cell (World.block_lt_of_cell? w _ hw571_1)).trans hw571_1), ((HB.out.cell (World.block_lt_of_cell? w _ hw571_2)).trans hw571_2), ((HB.out.cell (World.block_lt_of_cell? w _ hw571_3)).trans hw571_3)⟩ (fun hHeld => ?_)
    clear hK K
    refine norm_ (a' := ?_) ?_ ?_
    rotate_left
    ·
     show Act.put _ (some 23) _ = _
     simp only [Act.put, List.setIfInBounds_toArray, List.set_cons_zero, List.set_cons_succ, i64_w, i32_w]
     rfl
    refine pure_ (i := 9) (N := some 24) (v := ?_) (a' := ?_) #[true, true, true, true, true, true, true, true, true, true, false] rfl rfl (any_of HT_.out (by kernel_rfl)) (fun _ _ _ h => h) (Or.inl ⟨by rfl, ?_⟩) ?_ ?_; rotate_left; intro w'; go_simp; with_reducible rfl; rotate_left; simp only [Act.put, List.setIfInBounds_toArray, List.set_cons_zero, List.set_cons_succ, i64_w, i32_w]; rfl
    refine last_ (i := 10) (N := none) #[true, true, true, true, true, true, true, true, true, true, true] rfl rfl (one_of HT_.out (by kernel_rfl)) (by decide) (fun K hK => ?_)
    have hs19 : w17.cell? ⟨gb570, 1, none⟩ = some (u571001) := (blk_cell BK570.out 1).trans rfl
    have hfs19 := blk_frozen BK570.out 1
    have hns19_0 := NB568_570.out
    have hns19_1 := NB569_570.out
    have hms19_0 := NB570_568.out
    have hms19_1 := NB570_569.out
    refine skip_ (w1 := ?_) (by rfl) rfl ?_ ?_
    rotate_left
    ·
     go_simp
     rfl
    refine hK.out _ _ ?_
    clear hK K
    refine done_ (done_of HT_.out (by kernel_rfl)) ?_
    try go_wp2
    go_roundg k1
    case measure => have := HK1.out; omega
    case rel => exact ⟨(wrap64 (x4_1 + 1)), (y572), (.slice Ao18 y572.length co18), (by first | rfl | (simp [*]; done)), H', ⟨by have := HK1.out; omega⟩, ⟨by exact rx (Kd.R_mono (Kd.R_far (p := ⟨gb570, 1, none⟩) (Kd.R_types HO574.out BK570.out (by decide)) (fun _ hk => hk.2) (.slice Ao18 y572.length co18)) (fun _ hk => trivial))⟩, ⟨by (with_reducible repeat (first | refine blk_drewN ?_ _ | refine blk_drew ?_ | refine blk_alloc ?_ _)); refine blk_far ?_ NB568_570.out _; exact bx BK568.out⟩, ⟨by (with_reducible repeat (first | refine blk_drewN ?_ _ | refine blk_drew ?_ | refine blk_alloc ?_ _)); refine blk_far ?_ NB569_570.out _; exact bx BK569.out⟩, ⟨by (with_reducible repeat (first | refine blk_drewN ?_ _ | refine blk_drew ?_ | refine blk_alloc ?_ _)); refine blk_put (cs := #[.int .i64 a0_0, u571001]) ?_ 1 _ rfl; exact bx BK570.out⟩, ⟨lb⟩⟩
   ·
    rw [if_neg c10] at H
    have c10b0 : decide (x4_1 < (l0_1.length : Int)) = false := decide_eq_false c10
    clear c10
    simp only [Option.some.injEq, Prod.mk.injEq] at H
    obtain ⟨rfl, rfl⟩ := H
    have hnb20 := NB568_569.out
    have hnc20 := NB569_568.out
    have hnb21 := NB568_570.out
    have hnc21 := NB570_568.out
    have hcz22_0 : wr.cell? ⟨gb568, 0, none⟩ = some (.int .i64 a0_0) := (blk_cell BK568.out 0).trans rfl
    have hcz22_1 : wr.cell? ⟨gb568, 1, none⟩ = some (.slice A0_1 l0_1.length c0_1) := (blk_cell BK568.out 1).trans rfl
    have hfz22_0 := blk_frozen BK568.out 0
    have hfz22_1 := blk_frozen BK568.out 1
    have hnb23 := NB570_569.out
    have hnc23 := NB569_570.out
    have hcz24_0 : wr.cell? ⟨gb570, 0, none⟩ = some (.int .i64 a0_0) := (blk_cell BK570.out 0).trans rfl
    have hcz24_1 : wr.cell? ⟨gb570, 1, none⟩ = some (u571001) := (blk_cell BK570.out 1).trans rfl
    have hfz24_0 := blk_frozen BK570.out 0
    have hfz24_1 := blk_frozen BK570.out 1
    have hcz25_0 : wr.cell? ⟨gb569, 0, none⟩ = some (.int .i64 0) := (blk_cell BK569.out 0).trans rfl
    have hcz25_1 : wr.cell? ⟨gb569, 1, none⟩ = some (.slice none 0 0) := (blk_cell BK569.out 1).trans rfl
    have hfz25_0 := blk_frozen BK569.out 0
    have hfz25_1 := blk_frozen BK569.out 1
    obtain ⟨Ao26, co26, eo26⟩ := Kd.R_slice HO_571001.out
    subst eo26
    go_wp2
    refine bodyPost_ret (results_cell_row rfl _ _ gb569 24 #[.int .i64 a0_0, .slice Ao26 x571001_1.length co26] (0, 0) _ rfl (by (with_reducible repeat (first | refine blk_drewN ?_ _ | refine blk_drew ?_ | refine blk_alloc ?_ _)); refine blk_put (cs := #[.int .i64 a0_0, .slice none 0 0]) ?_ 1 _ rfl; (with_reducible repeat (first | refine blk_drewN ?_ _ | refine blk_drew ?_ | refine blk_alloc ?_ _)); refine blk_put (cs := #[.int .i64 0, .slice none 0 0]) ?_ 0 _ rfl; exact bx BK569.out) Try.underlying24 rfl (by kernel_rfl)) rfl ?_
    exact ⟨_, by first | rfl | (simp [errW_none, errW_some] <;> rfl) | (simp [*, errW_none, errW_some] <;> rfl), by exact rx (Kd.R_mono (Kd.R_far (p := ⟨gb569, 1, none⟩) (Kd.R_far (p := ⟨gb569, 0, none⟩) (Kd.R_types HO_571001.out BK569.out (by decide)) (fun _ hk => hk.2) (.int .i64 a0_0)) (fun _ hk => hk.2) (.slice Ao26 x571001_1.length co26)) (fun _ hk => trivial)), lb⟩

end Go.Proofs.Ytpmclhkednehhaa.Q
