-- PRINTED by print.py (a twelfth state) out of the translation. Not trusted: Lean checks it.
import Derived.Test.YtacklfnnpiobgaaQ0
import Derived.Test.YtacklfnnpiobgaaQ3
import Derived.Test.YtacklfnnpiobgaaQ4
import Derived.Test.YtacklfnnpiobgaaQ5
namespace Go.Proofs.Ytacklfnnpiobgaa.Q
open Go.RowKit Go.Proofs.YtacklfnnpiobgaaW.PrintWords Go.Proofs.YtacklfnnpiobgaaW.PrintLast Go.Proofs.YtacklfnnpiobgaaW.PrintMore
attribute [local go_sem] max2_int min2_int max_two min_two max_three min_three max_four min_four   -- for this text's walks alone
set_option linter.unusedVariables false
set_option linter.unusedSimpArgs false

/-! ### walk_Levels: function 13 -/
mutual
def walk_Levels.j0 : Nat → Int → Bool → Int → List (S41) → Option (List Int × Int)
  | 0, _, _, _, _ => none
  | k + 1, x1, x28, x123000, x123001 => if x28 = true then (some (([] : List Int), 30)) else ((walk_outs.f k x123000 x123001).bind fun t126 => ((walk_filled.f k x123000 (-1)).bind fun t129 => (if 0 ≤ x1 then (if x1 < (t129.length : Int) then (walk_Levels.l0 k t126 (t129.set (x1 : Int).toNat 0) (([x1] : List Int)) x123000 x123001) else (none)) else (none))))
def walk_Levels.l0 : Nat → List (List Int) → List Int → List Int → Int → List (S41) → Option (List Int × Int)
  | 0, _, _, _, _, _ => none
  | k + 1, x7, x8, x9, x123000, x123001 => if (x9.length : Int) > 0 then (if 0 < (x9.length : Int) then (if 1 ≤ (x9.length : Int) then (if 0 ≤ (rd x9 0) then (if (rd x9 0) < (x7.length : Int) then (walk_Levels.l1 k x7 x8 (x9.drop (1 : Int).toNat) (rd x9 0) (rd_L2 x7 (rd x9 0)) ((rd_L2 x7 (rd x9 0)).length : Int) 0 x123000 x123001) else (none)) else (none)) else (none)) else (none)) else (some (x8, 0))
def walk_Levels.l1 : Nat → List (List Int) → List Int → List Int → Int → List Int → Int → Int → Int → List (S41) → Option (List Int × Int)
  | 0, _, _, _, _, _, _, _, _, _ => none
  | k + 1, x7, x8, x9, x10, x50, x51, x52, x123000, x123001 => if x52 < x51 then (if 0 ≤ x52 then (if x52 < (x50.length : Int) then (if 0 ≤ (rd x50 x52) then (if (rd x50 x52) < (x123001.length : Int) then (if 0 ≤ ((rd_T41 x123001 (rd x50 x52)).f1) then (if ((rd_T41 x123001 (rd x50 x52)).f1) < (x8.length : Int) then (if (rd x8 ((rd_T41 x123001 (rd x50 x52)).f1)) < 0 then (if 0 ≤ x10 then (if x10 < (x8.length : Int) then (if x9.length < 17592186044416 then (walk_Levels.l1 k x7 (x8.set (((rd_T41 x123001 (rd x50 x52)).f1) : Int).toNat (wrap64 ((rd x8 x10) + 1))) (x9 ++ [(rd_T41 x123001 (rd x50 x52)).f1]) x10 x50 x51 (wrap64 (x52 + 1)) x123000 x123001) else (none)) else (none)) else (none)) else (walk_Levels.l1 k x7 x8 x9 x10 x50 x51 (wrap64 (x52 + 1)) x123000 x123001)) else (none)) else (none)) else (none)) else (none)) else (none)) else (none)) else (walk_Levels.l0 k x7 x8 x9 x123000 x123001)
end
def walk_Levels.f (k : Nat) (a0_0 : Int) (l0_1 : List (S41)) (a1 : Int) : Option (List Int × Int) := (graph_Check.f k a0_0 l0_1).bind fun bt123 => (if bt123.1 = 0 then (if a1 < 0 then (walk_Levels.j0 k a1 true a0_0 l0_1) else (walk_Levels.j0 k a1 (decide (a1 ≥ a0_0)) a0_0 l0_1)) else (some (([] : List Int), bt123.1)))
theorem walk_Levels.mono_l : ∀ k, (∀ y0 y1 y2 y3, LeO (walk_Levels.j0 k y0 y1 y2 y3) (walk_Levels.j0 (k + 1) y0 y1 y2 y3)) ∧ (∀ y0 y1 y2 y3 y4, LeO (walk_Levels.l0 k y0 y1 y2 y3 y4) (walk_Levels.l0 (k + 1) y0 y1 y2 y3 y4)) ∧ (∀ y0 y1 y2 y3 y4 y5 y6 y7 y8, LeO (walk_Levels.l1 k y0 y1 y2 y3 y4 y5 y6 y7 y8) (walk_Levels.l1 (k + 1) y0 y1 y2 y3 y4 y5 y6 y7 y8))
  | 0 => ⟨fun _ _ _ _ r h => by simp [walk_Levels.j0] at h, fun _ _ _ _ _ r h => by simp [walk_Levels.l0] at h, fun _ _ _ _ _ _ _ _ _ r h => by simp [walk_Levels.l1] at h⟩
  | k + 1 => by
    obtain ⟨ih0, ih1, ih2⟩ := walk_Levels.mono_l k
    refine ⟨?_, ?_, ?_⟩
    · intro y0 y1 y2 y3
      unfold walk_Levels.j0
      repeat' first
      | (with_reducible exact ih0 _ _ _ _)
      | (with_reducible exact ih1 _ _ _ _ _)
      | (with_reducible exact ih2 _ _ _ _ _ _ _ _ _)
      | (with_reducible exact graph_Check.mono _ _ _)
      | (with_reducible exact walk_filled.mono _ _ _)
      | (with_reducible exact walk_outs.mono _ _ _)
      | (with_reducible exact LeO.refl _)
      | (with_reducible exact LeO.none _)
      | (with_reducible refine LeO.ite ?_ ?_)
      | (with_reducible refine LeO.bind ?_ (fun _ => ?_))
      | exact ih0 _ _ _ _
      | exact ih1 _ _ _ _ _
      | exact ih2 _ _ _ _ _ _ _ _ _
      | exact graph_Check.mono _ _ _
      | exact walk_filled.mono _ _ _
      | exact walk_outs.mono _ _ _
      | exact LeO.none _
      | refine LeO.ite ?_ ?_
      | refine LeO.bind ?_ (fun _ => ?_)
    · intro y0 y1 y2 y3 y4
      unfold walk_Levels.l0
      repeat' first
      | (with_reducible exact ih0 _ _ _ _)
      | (with_reducible exact ih1 _ _ _ _ _)
      | (with_reducible exact ih2 _ _ _ _ _ _ _ _ _)
      | (with_reducible exact graph_Check.mono _ _ _)
      | (with_reducible exact walk_filled.mono _ _ _)
      | (with_reducible exact walk_outs.mono _ _ _)
      | (with_reducible exact LeO.refl _)
      | (with_reducible exact LeO.none _)
      | (with_reducible refine LeO.ite ?_ ?_)
      | (with_reducible refine LeO.bind ?_ (fun _ => ?_))
      | exact ih0 _ _ _ _
      | exact ih1 _ _ _ _ _
      | exact ih2 _ _ _ _ _ _ _ _ _
      | exact graph_Check.mono _ _ _
      | exact walk_filled.mono _ _ _
      | exact walk_outs.mono _ _ _
      | exact LeO.none _
      | refine LeO.ite ?_ ?_
      | refine LeO.bind ?_ (fun _ => ?_)
    · intro y0 y1 y2 y3 y4 y5 y6 y7 y8
      unfold walk_Levels.l1
      repeat' first
      | (with_reducible exact ih0 _ _ _ _)
      | (with_reducible exact ih1 _ _ _ _ _)
      | (with_reducible exact ih2 _ _ _ _ _ _ _ _ _)
      | (with_reducible exact graph_Check.mono _ _ _)
      | (with_reducible exact walk_filled.mono _ _ _)
      | (with_reducible exact walk_outs.mono _ _ _)
      | (with_reducible exact LeO.refl _)
      | (with_reducible exact LeO.none _)
      | (with_reducible refine LeO.ite ?_ ?_)
      | (with_reducible refine LeO.bind ?_ (fun _ => ?_))
      | exact ih0 _ _ _ _
      | exact ih1 _ _ _ _ _
      | exact ih2 _ _ _ _ _ _ _ _ _
      | exact graph_Check.mono _ _ _
      | exact walk_filled.mono _ _ _
      | exact walk_outs.mono _ _ _
      | exact LeO.none _
      | refine LeO.ite ?_ ?_
      | refine LeO.bind ?_ (fun _ => ?_)
theorem walk_Levels.mono : ∀ a0 a1 a2 k, LeO (walk_Levels.f k a0 a1 a2) (walk_Levels.f (k + 1) a0 a1 a2) := by
  intro a0 a1 a2 k
  obtain ⟨ih0, ih1, ih2⟩ := walk_Levels.mono_l k
  unfold walk_Levels.f
  repeat' first
      | (with_reducible exact ih0 _ _ _ _)
      | (with_reducible exact ih1 _ _ _ _ _)
      | (with_reducible exact ih2 _ _ _ _ _ _ _ _ _)
      | (with_reducible exact graph_Check.mono _ _ _)
      | (with_reducible exact walk_filled.mono _ _ _)
      | (with_reducible exact walk_outs.mono _ _ _)
      | (with_reducible exact LeO.refl _)
      | (with_reducible exact LeO.none _)
      | (with_reducible refine LeO.ite ?_ ?_)
      | (with_reducible refine LeO.bind ?_ (fun _ => ?_))
      | exact ih0 _ _ _ _
      | exact ih1 _ _ _ _ _
      | exact ih2 _ _ _ _ _ _ _ _ _
      | exact graph_Check.mono _ _ _
      | exact walk_filled.mono _ _ _
      | exact walk_outs.mono _ _ _
      | exact LeO.none _
      | refine LeO.ite ?_ ?_
      | refine LeO.bind ?_ (fun _ => ?_)
set_option maxHeartbeats 8000000 in
set_option maxRecDepth 100000 in
theorem walk_Levels.calls (k : Nat) (a0_0 : Int) (A0_1 : Option Addr) (c0_1 : Nat) (l0_1 : List (S41)) (a1 : Int) (r1 : List Int) (r2 : Int) (w : World) (hr0_1 : Kd.C k41 w A0_1 l0_1.length l0_1) (hc0_1 : l0_1.length ≤ c0_1) (h : walk_Levels.f k a0_0 l0_1 a1 = some (r1, r2)) :
    Calls Try.prog 13 #[.agg #[.int .i64 a0_0, .slice A0_1 l0_1.length c0_1], .int .i64 a1] w fun e w' => ∃ v0_ : Value, e = .returned (.tuple #[v0_, .int .i64 r2]) ∧ Kd.R (Kd.int .i64) 3 w' w.heap.size (fun _ => True) v0_ r1 ∧ Below w.heap.size w w' := by
 have hu24 := Try.underlying24
 have hu50 := Try.underlying50
 have HR0_1 := ak hr0_1
 have HC0_1 := ak hc0_1
 clear hr0_1 hc0_1
 have HB := ak (Below.refl w.heap.size w)
 have H : ((graph_Check.f k a0_0 l0_1).bind fun bt123 => (if bt123.1 = 0 then (if a1 < 0 then (walk_Levels.j0 k a1 true a0_0 l0_1) else (walk_Levels.j0 k a1 (decide (a1 ≥ a0_0)) a0_0 l0_1)) else (some (([] : List Int), bt123.1)))) = some (r1, r2) := h
 clear h
 replace H := Option.bind_eq_some_iff.mp H
 obtain ⟨⟨t123, t124⟩, A30, H⟩ := H
 replace H : (if t123 = 0 then (if a1 < 0 then (walk_Levels.j0 k a1 true a0_0 l0_1) else (walk_Levels.j0 k a1 (decide (a1 ≥ a0_0)) a0_0 l0_1)) else (some (([] : List Int), t123))) = some (r1, r2) := H
 have A3 := ak A30
 clear A30
 by_cases c4 : t123 = 0
 ·
  rw [if_pos c4] at H
  have c4b0 : (t123 == 0) = true := beq_iff_eq.mpr c4
  have c4b1 : (t123 != 0) = false := bne_eq_false_iff_eq.mpr c4
  clear c4
  have HC5 := ak H
  clear H
  go_enter Try.func13, Try.ntmps13
  go_upto_region 4 with (first | ((with_reducible refine gate_dst (N := 2) rfl ?_); refine box_event ?hg (N := 2) ?hd (cs := #[.int .i64 a0_0, .slice A0_1 l0_1.length c0_1]) (t := 24) ?hr ?_; (case hd => rfl); (case hg => rfl); (case hr => first | (go_simp; done) | (go_simp; rfl)); intro gb122 hg w6 hbox hb; have n0_ := ak (below_step lb hb); have n1_ := ak (hbox); have n2_ := ak ((by rw [hg]; exact (below_size lb) : w.heap.size ≤ gb122)); have n3_ := ak ((by rw [hg]; exact (below_size lb) : w.heap.size ≤ gb122)); clear HB; have HB := n0_; have BK122 := n1_; have GW122 := n2_; have GE122 := n3_; clear n0_ n1_ n2_ n3_; clear hb hbox hg; have hcz7_0 : w6.cell? ⟨gb122, 0, none⟩ = some (.int .i64 a0_0) := (blk_cell BK122.out 0).trans rfl; have hcz7_1 : w6.cell? ⟨gb122, 1, none⟩ = some (.slice A0_1 l0_1.length c0_1) := (blk_cell BK122.out 1).trans rfl; have hfz7_0 := blk_frozen BK122.out 0; have hfz7_1 := blk_frozen BK122.out 1) | (go_at_call 29; (with_reducible refine (graph_Check.calls k a0_0 _ _ l0_1 t123 t124 _ ?side1 ?side2 A3.out).mono ?_); (case side1 => repeat (first | exact (Kd.C_below HR0_1.out HB.out) | (with_reducible refine Kd.C_alloc ?_ _) | (with_reducible refine Kd.C_drewN ?_ _) | (with_reducible refine Kd.C_drew ?_))); (case side2 => exact HC0_1.out); rintro e w8 ⟨rfl, hb⟩; have n0_ := ak (blk_below (bx BK122.out) hb); have n1_ := ak (below_step lb hb); clear BK122; clear HB; have BK122 := n0_; have HB := n1_; clear n0_ n1_; (try clear hb); (try clear hb2); (try clear hk); (try clear hi)) | ((with_reducible refine gate_dst (N := 6) rfl ?_); refine box_event ?hg (N := 6) ?hd (cs := #[.int .i64 0, .int .i64 0]) (t := 50) ?hr ?_; (case hd => rfl); (case hg => rfl); (case hr => first | (go_simp; done) | (go_simp; rfl)); intro gb125 hg w9 hbox hb; have n0_ := ak (blk_below (bx BK122.out) hb); have n1_ := ak (below_step lb hb); have n2_ := ak (hbox); have n3_ := ak ((by rw [hg]; exact (below_size lb) : w.heap.size ≤ gb125)); have n4_ := ak ((by rw [hg]; exact (below_size lb) : w.heap.size ≤ gb125)); have n5_ := ak ((by rw [hg]; exact Nat.ne_of_lt (blk_lt (g := gb122) (o := .cells #[.int .i64 a0_0, .slice A0_1 l0_1.length c0_1] 24 (0, 0)) (bx BK122.out)) : gb122 ≠ gb125)); have n6_ := ak ((by rw [hg]; exact Nat.ne_of_gt (blk_lt (g := gb122) (o := .cells #[.int .i64 a0_0, .slice A0_1 l0_1.length c0_1] 24 (0, 0)) (bx BK122.out)) : gb125 ≠ gb122)); clear BK122; clear HB; have BK122 := n0_; have HB := n1_; have BK125 := n2_; have GW125 := n3_; have GE125 := n4_; have NB122_125 := n5_; have NB125_122 := n6_; clear n0_ n1_ n2_ n3_ n4_ n5_ n6_; clear hb hbox hg; have hnb10 := NB125_122.out; have hnc10 := NB122_125.out; have hcz11_0 : w9.cell? ⟨gb125, 0, none⟩ = some (.int .i64 0) := (blk_cell BK125.out 0).trans rfl; have hcz11_1 : w9.cell? ⟨gb125, 1, none⟩ = some (.int .i64 0) := (blk_cell BK125.out 1).trans rfl; have hfz11_0 := blk_frozen BK125.out 0; have hfz11_1 := blk_frozen BK125.out 1))
  (try simp only [Act.put, List.setIfInBounds_toArray, List.set_cons_zero, List.set_cons_succ])
  go_cut [28] (fun v28 wc => ∃ (kq : Nat) (x28_4 : Bool), v28 = .bool x28_4 ∧ Aside0 (walk_Levels.j0 kq a1 x28_4 a0_0 l0_1 = some (r1, r2)) ∧ Aside0 (kq ≤ k) ∧ Aside0 (wc.heap[gb122]? = some (.cells #[.int .i64 a0_0, (.slice A0_1 l0_1.length c0_1)] 24 (0, 0))) ∧ Aside0 (wc.heap[gb125]? = some (.cells #[.int .i64 t123, .int .i64 t124] 50 (0, 0))) ∧ Aside0 (Below w.heap.size w wc))
  case first =>
   have H := HC5.out
   clear HC5
   by_cases c12 : a1 < 0
   ·
    rw [if_pos c12] at H
    have c12b0 : decide (a1 < 0) = true := decide_eq_true c12
    clear c12
    (first | rw [c12b0] | (simp only [i64_w, i32_w]; rw [c12b0]) | skip)
    have H' := ak H
    clear H
    go_wp2
    repeat (go_quiet (fail); try go_wp2)
    go_meet
    case rel => exact ⟨_, (true), (by first | rfl | (simp [*]; done)), H', ⟨by first | omega | exact Nat.le_refl _⟩, ⟨by (with_reducible repeat (first | refine blk_drewN ?_ _ | refine blk_drew ?_ | refine blk_alloc ?_ _)); refine blk_far ?_ NB122_125.out _; (with_reducible repeat (first | refine blk_drewN ?_ _ | refine blk_drew ?_ | refine blk_alloc ?_ _)); refine blk_far ?_ NB122_125.out _; exact bx BK122.out⟩, ⟨by (with_reducible repeat (first | refine blk_drewN ?_ _ | refine blk_drew ?_ | refine blk_alloc ?_ _)); refine blk_put (cs := #[.int .i64 t123, .int .i64 0]) ?_ 1 _ rfl; (with_reducible repeat (first | refine blk_drewN ?_ _ | refine blk_drew ?_ | refine blk_alloc ?_ _)); refine blk_put (cs := #[.int .i64 0, .int .i64 0]) ?_ 0 _ rfl; exact bx BK125.out⟩, ⟨lb⟩⟩
   ·
    rw [if_neg c12] at H
    have c12b0 : decide (a1 < 0) = false := decide_eq_false c12
    clear c12
    (first | rw [c12b0] | (simp only [i64_w, i32_w]; rw [c12b0]) | skip)
    have H' := ak H
    clear H
    have hnb13 := NB122_125.out
    have hnc13 := NB125_122.out
    have hcz14_0 : w9.cell? ⟨gb122, 0, none⟩ = some (.int .i64 a0_0) := (blk_cell BK122.out 0).trans rfl
    have hcz14_1 : w9.cell? ⟨gb122, 1, none⟩ = some (.slice A0_1 l0_1.length c0_1) := (blk_cell BK122.out 1).trans rfl
    have hfz14_0 := blk_frozen BK122.out 0
    have hfz14_1 := blk_frozen BK122.out 1
    go_wp2
    repeat (go_quiet (fail); try go_wp2)
    go_meet
    case rel => exact ⟨_, (decide (a1 ≥ a0_0)), (by first | rfl | (simp [*]; done)), H', ⟨by first | omega | exact Nat.le_refl _⟩, ⟨by (with_reducible repeat (first | refine blk_drewN ?_ _ | refine blk_drew ?_ | refine blk_alloc ?_ _)); refine blk_far ?_ NB122_125.out _; (with_reducible repeat (first | refine blk_drewN ?_ _ | refine blk_drew ?_ | refine blk_alloc ?_ _)); refine blk_far ?_ NB122_125.out _; exact bx BK122.out⟩, ⟨by (with_reducible repeat (first | refine blk_drewN ?_ _ | refine blk_drew ?_ | refine blk_alloc ?_ _)); refine blk_put (cs := #[.int .i64 t123, .int .i64 0]) ?_ 1 _ rfl; (with_reducible repeat (first | refine blk_drewN ?_ _ | refine blk_drew ?_ | refine blk_alloc ?_ _)); refine blk_put (cs := #[.int .i64 0, .int .i64 0]) ?_ 0 _ rfl; exact bx BK125.out⟩, ⟨lb⟩⟩
  case rest =>
   clear HC5
   try clear c1; try clear p2; try clear c4; try clear c4b0; try clear c4b1; try clear c10; try clear c12; try clear c12b0; try clear c13; try clear hcz11_0; try clear hcz11_1; try clear hcz14_0; try clear hcz14_1; try clear hcz7_0; try clear hcz7_1; try clear hfz11_0; try clear hfz11_1; try clear hfz14_0; try clear hfz14_1; try clear hfz7_0; try clear hfz7_1
   obtain ⟨kq, x28_4, rfl, HA, HJ4, BK122, BK125, HB⟩ := hcut
   cases kq with
   | zero => exact absurd HA.out (by simp [walk_Levels.j0])
   | succ kj4 =>
    have H := HA.out
    clear HA
    simp only [walk_Levels.j0] at H
    by_cases c15 : x28_4 = true
    ·
     subst c15
     have H1 : (some (([] : List Int), 30)) = some (r1, r2) := by rw [if_pos rfl] at H; exact H
     clear H
     have H := H1
     clear H1
     simp only [Option.some.injEq, Prod.mk.injEq] at H
     obtain ⟨rfl, rfl⟩ := H
     go_wp2
     repeat (go_quiet (fail); try go_wp2)
     go_ret2
     exact ⟨_, by first | rfl | (simp [errW_none, errW_some] <;> rfl) | (simp [*, errW_none, errW_some] <;> rfl), by first | exact Kd.R_nil _ _ _ _ _ | exact Kd.N_nil _ _ _ _ _ | exact Kd.V_nil _ _ _ _ _ | exact Kd.Q_nil _ _ _ _ _ | exact Kd.S_nil _ _ _ _ _, lb⟩
    ·
     replace c15 := Bool.eq_false_iff.mpr c15
     subst c15
     have H1 : ((walk_outs.f kj4 a0_0 l0_1).bind fun t126 => ((walk_filled.f kj4 a0_0 (-1)).bind fun t129 => (if 0 ≤ a1 then (if a1 < (t129.length : Int) then (walk_Levels.l0 kj4 t126 (t129.set (a1 : Int).toNat 0) (([a1] : List Int)) a0_0 l0_1) else (none)) else (none)))) = some (r1, r2) := by rw [if_neg (show ¬ (false = true) by decide)] at H; exact H
     clear H
     have H := H1
     clear H1
     replace H := Option.bind_eq_some_iff.mp H
     obtain ⟨t126, A160, H⟩ := H
     replace H : ((walk_filled.f kj4 a0_0 (-1)).bind fun t129 => (if 0 ≤ a1 then (if a1 < (t129.length : Int) then (walk_Levels.l0 kj4 t126 (t129.set (a1 : Int).toNat 0) (([a1] : List Int)) a0_0 l0_1) else (none)) else (none))) = some (r1, r2) := H
     have A16 := ak A160
     clear A160
     replace H := Option.bind_eq_some_iff.mp H
     obtain ⟨t129, A170, H⟩ := H
     replace H : (if 0 ≤ a1 then (if a1 < (t129.length : Int) then (walk_Levels.l0 kj4 t126 (t129.set (a1 : Int).toNat 0) (([a1] : List Int)) a0_0 l0_1) else (none)) else (none)) = some (r1, r2) := H
     have A17 := ak A170
     clear A170
     by_cases c18 : 0 ≤ a1
     rotate_left
     ·
      rw [if_neg c18] at H
      exact absurd H (by simp)
     rw [if_pos c18] at H
     have c18b0 : decide (0 ≤ a1) = true := decide_eq_true c18
     clear c18
     by_cases c19 : a1 < (t129.length : Int)
     rotate_left
     ·
      rw [if_neg c19] at H
      exact absurd H (by simp)
     rw [if_pos c19] at H
     have c19b0 : decide (a1 < (t129.length : Int)) = true := decide_eq_true c19
     clear c19
     obtain ⟨y132, hy132⟩ : ∃ y_ : List Int, y_ = (t129.set (a1 : Int).toNat 0) := ⟨_, rfl⟩
     replace H : (walk_Levels.l0 kj4 t126 y132 (([a1] : List Int)) a0_0 l0_1) = some (r1, r2) := by first | (rw [hy132]; exact H) | exact H
     have Ny132 := ak hy132
     clear hy132
     obtain ⟨y133, hy133⟩ : ∃ y_ : List Int, y_ = (([a1] : List Int)) := ⟨_, rfl⟩
     replace H : (walk_Levels.l0 kj4 t126 y132 y133 a0_0 l0_1) = some (r1, r2) := by first | (rw [hy133]; exact H) | exact H
     have Ny133 := ak hy133
     clear hy133
     have H' := ak H
     clear H
     have hnb21 := NB122_125.out
     have hnc21 := NB125_122.out
     have hcz22_0 : wc.cell? ⟨gb122, 0, none⟩ = some (.int .i64 a0_0) := (blk_cell BK122.out 0).trans rfl
     have hcz22_1 : wc.cell? ⟨gb122, 1, none⟩ = some (.slice A0_1 l0_1.length c0_1) := (blk_cell BK122.out 1).trans rfl
     have hfz22_0 := blk_frozen BK122.out 0
     have hfz22_1 := blk_frozen BK122.out 1
     go_wp2_with (first | (go_at_call 30; (with_reducible refine (walk_outs.calls kj4 a0_0 _ _ l0_1 t126 _ ?side1 ?side2 A16.out).mono ?_); (case side1 => repeat (first | exact (Kd.C_below HR0_1.out HB.out) | (with_reducible refine Kd.C_alloc ?_ _) | (with_reducible refine Kd.C_drewN ?_ _) | (with_reducible refine Kd.C_drew ?_))); (case side2 => exact HC0_1.out); rintro e w23 ⟨v127, rfl, ho0, hb⟩; have n0_ := ak (Kd.S_lower ho0 (below_size lb)); have n1_ := ak (blk_below (bx BK122.out) hb); have n2_ := ak (blk_below (bx BK125.out) hb); have n3_ := ak (below_step lb hb); clear BK122; clear BK125; clear HB; have HO128 := n0_; have BK122 := n1_; have BK125 := n2_; have HB := n3_; clear n0_ n1_ n2_ n3_; (try clear hb); (try clear hb2); (try clear hk); (try clear hi); (try clear ho0); have hcz24_0 : w23.cell? ⟨gb122, 0, none⟩ = some (.int .i64 a0_0) := (blk_cell BK122.out 0).trans rfl; have hcz24_1 : w23.cell? ⟨gb122, 1, none⟩ = some (.slice A0_1 l0_1.length c0_1) := (blk_cell BK122.out 1).trans rfl; have hfz24_0 := blk_frozen BK122.out 0; have hfz24_1 := blk_frozen BK122.out 1) | (go_at_call 31; (with_reducible refine (walk_filled.calls kj4 a0_0 (-1) t129 _ A17.out).mono ?_); rintro e w25 ⟨v130, rfl, ho0, hb⟩; have n0_ := ak (Kd.S_elder' (sx HO128.out) (Kd.R_base ho0) hb); have n1_ := ak (Kd.R_lower ho0 (below_size lb)); have n2_ := ak (blk_below (bx BK122.out) hb); have n3_ := ak (blk_below (bx BK125.out) hb); have n4_ := ak (below_step lb hb); clear HO128; clear BK122; clear BK125; clear HB; have HO128 := n0_; have HO131 := n1_; have BK122 := n2_; have BK125 := n3_; have HB := n4_; clear n0_ n1_ n2_ n3_ n4_; (try clear hb); (try clear hb2); (try clear hk); (try clear hi); (try clear ho0); have p20 : 0 ≤ (a1 : Int) := oda; have q20 : (a1 : Int) < ((t129.length : Int) : Int) := oda; obtain ⟨go20, co20, eo20, gb20, gl20, cl20, HG20⟩ := Kd.R_form HO131.out (by omega); (first | cases eo20 | (injection eo20 with ea_ en_ ec_; (first | subst ea_ | (injection ea_ with ea_; subst ea_)); subst ec_; clear en_)); have GB20 := ak gb20; have GG20 := ak HG20; clear gb20 gl20 HG20; obtain ⟨hx20_0, hf20_0⟩ := Kd.R_celln 0 HO131.out (a1 : Int) p20 q20; replace p20 := eq_true p20; replace q20 := eq_true q20; obtain ⟨hy26_, hz26_⟩ := Kd.R_celln 0 HO131.out (a1 : Int) (oda) (oda); have HP26 := Kd.R_putg HO131.out (a1 : Int) 0) | ((with_reducible refine gate_store (t := 3) (p := 36) rfl ?_); (try (rw [drewN_self w25]; generalize hq_ : World.drewN w25 _ = w25; have n0_ := ak (Kd.S_at hq_ HO128.out); have n1_ := ak (Kd.R_at hq_ HO131.out); have n2_ := ak (blk_at hq_ BK122.out); have n3_ := ak (blk_at hq_ BK125.out); have n4_ := ak (below_at hq_ HB.out); clear hq_ HO128 HO131 BK122 BK125 HB; have HO128 := n0_; have HO131 := n1_; have BK122 := n2_; have BK125 := n3_; have HB := n4_; clear n0_ n1_ n2_ n3_ n4_; (try (obtain ⟨hy26_, hz26_⟩ := Kd.R_celln 0 HO131.out (a1 : Int) (oda) (oda))); (try (have HP26 := Kd.R_putg HO131.out (a1 : Int) 0)))); refine store_event (t := 3) (p := 36) (v := ?vo_w27) (w1 := (w25.setCell ⟨go20, (a1 : Int).toNat, none⟩ (.int .i64 0))) ?hg ?ho ?hn ?hr ?_; (case ho => rfl); (case hg => rfl); (case hn => rfl); (case hr => first | (go_simp; done) | (go_simp; rfl)); intro w27 hw; have hg : w25.grownBy w27 (some go20) := (by rw [hw]; exact HP26.2); have hp_ : Kd.R (Kd.int .i64) 3 w27 w.heap.size (fun _ => True) (.slice (some ⟨go20, 0, none⟩) t129.length co20) y132 := (by rw [hw, Ny132.out]; exact HP26.1); clear HP26; have n0_ := ak (blk_grown (bx BK122.out) hg (Kd.R_ne HO131.out BK122.out (by decide))); have n1_ := ak (blk_grown (bx BK125.out) hg (Kd.R_ne HO131.out BK125.out (by decide))); have n2_ := ak (Kd.S_after (v := (.slice (some ⟨go20, 0, none⟩) t129.length co20)) (v1 := (.slice (some ⟨go20, 0, none⟩) t129.length co20)) (ok := (fun _ => True)) (sx HO128.out) hg (.inl rfl)); have n3_ := ak (hp_); have n4_ := ak ((by rw [hw]; exact below_set (HB.out) GB20.out : Below w.heap.size w w27)); clear BK122; clear BK125; clear HO128; clear HO131; clear HB; have BK122 := n0_; have BK125 := n1_; have HO128 := n2_; have HO131 := n3_; have HB := n4_; clear n0_ n1_ n2_ n3_ n4_; clear hg hw hp_) | ((with_reducible refine gate_dst (N := 38) rfl ?_); refine Kd.R_lit (Kd.int .i64) _ 3 ?hg (N := 38) ?hd (xs := ([a1] : List Int)) (inner := [.int .i64 a1]) (ok := fun _ => True) (okp := fun _ => True) ?hr ?hp (fun _ hk => hk) trivial (Below.refl _ _) (Nat.le_refl _) (by simp) ?_; (case hd => rfl); (case hg => rfl); (case hr => first | (go_simp; done) | (go_simp; rfl)); (case hp => exact (Reps.one (show Kd.M (Kd.int .i64) _ _ _ a1 [.int .i64 a1] from rfl) (Reps.none _ _))); intro v134 w28 ho29 hb hg_ hnew_; clear hg_ hnew_; (first | rw [← Ny133.out] at ho29 | (simp only [Int.reduceToNat] at ho29; rw [← Ny133.out] at ho29)); have n0_ := ak (Kd.S_elder' (sx HO128.out) (Kd.R_base ho29) hb); have n1_ := ak (Kd.R_elder' (rx HO131.out) (Kd.R_base ho29) hb); have n2_ := ak (Kd.R_lower (Kd.R_new' ho29 (Kd.R_lt (rx HO131.out))) (below_size lb)); have n3_ := ak (blk_below (bx BK122.out) hb); have n4_ := ak (blk_below (bx BK125.out) hb); have n5_ := ak (below_step lb hb); clear HO128; clear HO131; clear BK122; clear BK125; clear HB; have HO128 := n0_; have HO131 := n1_; have HO135 := n2_; have BK122 := n3_; have BK125 := n4_; have HB := n5_; clear n0_ n1_ n2_ n3_ n4_ n5_; clear hb ho29))
     go_loopg [9] kj4 (fun kq v9 w' => ∃ (x8_2 : List Int) (x9_2 : List Int), Aside0 (walk_Levels.l0 kq t126 x8_2 x9_2 a0_0 l0_1 = some (r1, r2)) ∧ Aside0 (kq ≤ kj4) ∧ Aside0 (Kd.S (Kd.slice 3 (Kd.int .i64)) 26 w' w.heap.size (fun k_ => some k_ ≠ ((.slice (some ⟨go20, 0, none⟩) t129.length co20) : Value).ownBlock ∧ some k_ ≠ (v9 : Value).ownBlock) v127 t126) ∧ Aside0 (Kd.R (Kd.int .i64) 3 w' w.heap.size (fun k_ => some k_ ≠ (v9 : Value).ownBlock) (.slice (some ⟨go20, 0, none⟩) t129.length co20) x8_2) ∧ Aside0 (Kd.Q (Kd.int .i64) 3 w' w.heap.size (fun k_ => some k_ ≠ ((.slice (some ⟨go20, 0, none⟩) t129.length co20) : Value).ownBlock) v9 x9_2) ∧ Aside0 (w'.heap[gb122]? = some (.cells #[.int .i64 a0_0, (.slice A0_1 l0_1.length c0_1)] 24 (0, 0))) ∧ Aside0 (w'.heap[gb125]? = some (.cells #[.int .i64 t123, .int .i64 t124] 50 (0, 0))) ∧ Aside0 (Below w.heap.size w w'))
     case atStart => exact ⟨(y132), (y133), H', ⟨Nat.le_refl _⟩, ⟨by exact sx (Kd.S_mono HO128.out (fun _ hk => ⟨hk.1.2, hk.2⟩))⟩, ⟨by exact rx (Kd.R_mono HO131.out (fun _ hk => hk.2))⟩, ⟨Kd.Q_of_R (by exact rx (Kd.R_mono HO135.out (fun _ hk => hk.2)))⟩, ⟨bx BK122.out⟩, ⟨bx BK125.out⟩, ⟨lb⟩⟩
     case round =>
      clear H'
      try clear c1; try clear c2; try clear p2; try clear q2; try clear hx2; try clear hf2; try clear c4; try clear c4b0; try clear c4b1; try clear c10; try clear c12; try clear c12b0; try clear c13; try clear c15; try clear c18; try clear c18b0; try clear c19; try clear c19b0; try clear p20; try clear q20; try clear hx20; try clear hf20; try clear c21; try clear hcz11_0; try clear hcz11_1; try clear hcz14_0; try clear hcz14_1; try clear hcz22_0; try clear hcz22_1; try clear hcz24_0; try clear hcz24_1; try clear hcz7_0; try clear hcz7_1; try clear hfz11_0; try clear hfz11_1; try clear hfz14_0; try clear hfz14_1; try clear hfz22_0; try clear hfz22_1; try clear hfz24_0; try clear hfz24_1; try clear hfz7_0; try clear hfz7_1; try clear hx20_0; try clear p2; try clear p20; try clear q20
      obtain ⟨x8_2, x9_2, HA, HK2, HO_7, HO_8, HO_9, BK122, BK125, HB⟩ := hrel
      have hl8_2 := (Kd.R_reads' HO_8.out).1
      rw [hl8_2] at HO_8
      (try simp only [hl8_2])
      (try simp only [hl8_2] at BK122)
      (try simp only [hl8_2] at BK125)
      (try simp only [hl8_2] at HO_7)
      (try simp only [hl8_2] at HO_9)
      cases gk with
      | zero => exact absurd HA.out (by simp [walk_Levels.l0])
      | succ k2 =>
       have H := HA.out
       clear HA
       simp only [walk_Levels.l0] at H
       by_cases c30 : (x9_2.length : Int) > 0
       ·
        rw [if_pos c30] at H
        have c30b0 : decide (0 < (x9_2.length : Int)) = true := decide_eq_true c30
        have c30b1 : decide (0 < x9_2.length) = true := decide_eq_true (by omega)
        clear c30
        by_cases c31 : 0 < (x9_2.length : Int)
        rotate_left
        ·
         rw [if_neg c31] at H
         exact absurd H (by simp)
        rw [if_pos c31] at H
        have c31b0 : decide (0 < (x9_2.length : Int)) = true := decide_eq_true c31
        have c31b1 : decide (0 < x9_2.length) = true := decide_eq_true (by omega)
        clear c31
        by_cases c32 : 1 ≤ (x9_2.length : Int)
        rotate_left
        ·
         rw [if_neg c32] at H
         exact absurd H (by simp)
        rw [if_pos c32] at H
        have c32b0 := eq_true c32
        have c32b1 : decide (1 ≤ (x9_2.length : Int)) = true := decide_eq_true c32
        clear c32
        obtain ⟨y137, hy137⟩ : ∃ y_ : List Int, y_ = (x9_2.drop (1 : Int).toNat) := ⟨_, rfl⟩
        replace H : (if 0 ≤ (rd x9_2 0) then (if (rd x9_2 0) < (t126.length : Int) then (walk_Levels.l1 k2 t126 x8_2 y137 (rd x9_2 0) (rd_L2 t126 (rd x9_2 0)) ((rd_L2 t126 (rd x9_2 0)).length : Int) 0 a0_0 l0_1) else (none)) else (none)) = some (r1, r2) := by first | (rw [hy137]; exact H) | exact H
        have Ny137 := ak hy137
        clear hy137
        by_cases c33 : 0 ≤ (rd x9_2 0)
        rotate_left
        ·
         rw [if_neg c33] at H
         exact absurd H (by simp)
        rw [if_pos c33] at H
        have c33b0 : decide (0 ≤ (rd x9_2 0)) = true := decide_eq_true c33
        clear c33
        by_cases c34 : (rd x9_2 0) < (t126.length : Int)
        rotate_left
        ·
         rw [if_neg c34] at H
         exact absurd H (by simp)
        rw [if_pos c34] at H
        have c34b0 : decide ((rd x9_2 0) < (t126.length : Int)) = true := decide_eq_true c34
        clear c34
        have H' := ak H
        clear H
        obtain ⟨Ao35, co35, eo35, _⟩ := Kd.Q_slice HO_9.out
        subst eo35
        have p136 : 0 ≤ (0 : Int) := (by omega)
        have q136 : 0 < (x9_2.length : Int) := oda
        obtain ⟨ad136, e136, hx136_0⟩ := Kd.at_int (Kd.Q_reads' HO_9.out).2.2 0 p136 q136
        cases e136
        have qi136 : (0 < x9_2.length) = True := eq_true (by omega)
        (try rw [show ((0 : Int)).toNat = 0 from rfl] at hx136_0)
        (try rw [Addr.add_zero'] at hx136_0)
        replace p136 := eq_true p136
        replace q136 := eq_true q136
        have q36 : (1 : Int) ≤ ((x9_2.length : Int) : Int) := oda
        obtain ⟨i036, hi036, _, hsz36, _⟩ := info_parts info3
        have hcut36 := cut_from (P := Try.prog) 26 3 .i64 Try.underlying26 hi036 1 hsz36 (some ad136) x9_2.length co35 1 (by omega) q36
        have hr36 := Kd.Q_drop (k := (1 : Int).toNat) HO_9.out (by omega)
        obtain ⟨A36, hA36⟩ : ∃ A1, A1 = (if co35 = (1 : Int).toNat then (some ad136) else ((some ad136) : Option Addr).map (·.add ((1 : Int).toNat * 1))) := ⟨_, rfl⟩
        obtain ⟨c36, hc36⟩ : ∃ c1, c1 = co35 - (1 : Int).toNat := ⟨_, rfl⟩
        have hy36 : y137.length = x9_2.length - (1 : Int).toNat := (by rw [Ny137.out, List.length_drop])
        rw [← Ny137.out] at hr36
        rw [← hy36, ← hA36, ← hc36] at hcut36
        replace hr36 : Kd.Q (Kd.int .i64) 3 wr w.heap.size (fun k_ => some k_ ≠ (.slice (some ⟨go20, 0, none⟩) x8_2.length co20 : Value).ownBlock) (.slice A36 y137.length c36) y137 := (by rw [hA36, hc36, hy36]; exact hr36)
        have HE36 : Aside0 ((Value.slice A36 y137.length c36).ownBlock = (.slice (some ad136) x9_2.length co35 : Value).ownBlock) := ⟨by rw [hA36]; split <;> (cases ((some ad136) : Option Addr) <;> rfl)⟩
        clear hy36 hi036 hsz36 HO_9 hA36 hc36
        have HO139 := ak hr36
        clear hr36
        replace q36 := eq_true q36
        have n_ := ak (Kd.S_mono (ok' := fun k_ => (some k_ ≠ (.slice (some ⟨go20, 0, none⟩) x8_2.length co20 : Value).ownBlock ∧ some k_ ≠ (.slice A36 y137.length c36 : Value).ownBlock)) HO_7.out (fun k_ hk => ⟨hk.1, (by rw [HE36.out]; exact hk.2)⟩))
        clear HO_7
        have HO_7 := n_
        clear n_
        have n_ := ak (Kd.R_mono (ok' := fun k_ => some k_ ≠ (.slice A36 y137.length c36 : Value).ownBlock) HO_8.out (fun k_ hk => (by rw [HE36.out]; exact hk)))
        clear HO_8
        have HO_8 := n_
        clear n_
        obtain ⟨Ao37, co37, eo37⟩ := Kd.S_slice HO_7.out
        subst eo37
        have p140 : 0 ≤ ((rd x9_2 0) : Int) := oda
        have q140 : (rd x9_2 0) < (t126.length : Int) := oda
        obtain ⟨ad140, A140_0, c140_0, e140, hx140_0, hl140_0, hi140_0⟩ := at_L2 (Kd.S_reads' HO_7.out).2.2 (rd x9_2 0) p140 q140
        cases e140
        obtain ⟨ce140, hce140, hMe140, hcc140⟩ := Kd.S_get HO_7.out [] (rd x9_2 0) p140 (by first | exact q140 | exact oda | (have e_ := (Kd.S_reads' HO_7.out).1; omega))
        obtain ⟨ve140_0, rfl, ge140_0⟩ := hMe140
        have hv140_0 := hcc140 0 _ rfl
        rw [Nat.add_zero, show ((Kd.slice 3 (Kd.int .i64))).sz = 1 from rfl, Nat.mul_one] at hv140_0
        replace hv140_0 := Option.some.inj (hv140_0.symm.trans hx140_0)
        rw [hv140_0] at ge140_0
        have HL140_0 := ak (show Kd.R (Kd.int .i64) 3 _ _ _ _ (rd_L2 t126 (rd x9_2 0)) from ge140_0)
        clear hv140_0 ge140_0
        clear hcc140 hce140
        have HR140_0 := ak hi140_0
        have HC140_0 := ak hl140_0
        clear hi140_0 hl140_0
        replace p140 := eq_true p140
        replace q140 := eq_true q140
        go_wp2
        repeat (go_quiet (fail); try go_wp2)
        go_loopg [9, 52] k2 (fun kq v9 v52 w' => ∃ (x8_3 : List Int) (x9_3 : List Int) (x52_3 : Int), v52 = .int .i64 x52_3 ∧ Aside0 (walk_Levels.l1 kq t126 x8_3 x9_3 (rd x9_2 0) (rd_L2 t126 (rd x9_2 0)) ((rd_L2 t126 (rd x9_2 0)).length : Int) x52_3 a0_0 l0_1 = some (r1, r2)) ∧ Aside0 (kq ≤ k2) ∧ Aside0 (Kd.S (Kd.slice 3 (Kd.int .i64)) 26 w' w.heap.size (fun k_ => some k_ ≠ ((.slice (some ⟨go20, 0, none⟩) x8_2.length co20) : Value).ownBlock ∧ some k_ ≠ (v9 : Value).ownBlock) (.slice (some ad140) t126.length co37) t126) ∧ Aside0 (Kd.R (Kd.int .i64) 3 w' w.heap.size (fun k_ => some k_ ≠ ((.slice (some ⟨go20, 0, none⟩) x8_2.length co20) : Value).ownBlock ∧ some k_ ≠ (v9 : Value).ownBlock) (.slice A140_0 (rd_L2 t126 (rd x9_2 0)).length c140_0) (rd_L2 t126 (rd x9_2 0))) ∧ Aside0 (Kd.R (Kd.int .i64) 3 w' w.heap.size (fun k_ => some k_ ≠ (v9 : Value).ownBlock) (.slice (some ⟨go20, 0, none⟩) x8_2.length co20) x8_3) ∧ Aside0 (Kd.Q (Kd.int .i64) 3 w' w.heap.size (fun k_ => some k_ ≠ ((.slice (some ⟨go20, 0, none⟩) x8_2.length co20) : Value).ownBlock) v9 x9_3) ∧ Aside0 (w'.heap[gb122]? = some (.cells #[.int .i64 a0_0, (.slice A0_1 l0_1.length c0_1)] 24 (0, 0))) ∧ Aside0 (w'.heap[gb125]? = some (.cells #[.int .i64 t123, .int .i64 t124] 50 (0, 0))) ∧ Aside0 (Below w.heap.size w w'))
        case atStart => exact ⟨(x8_2), (y137), (0), (by first | rfl | (simp [*]; done)), H', ⟨Nat.le_refl _⟩, ⟨by (try simp only [hl8_2]); exact sx HO_7.out⟩, ⟨by (try simp only [hl8_2]); (with_reducible repeat (first | apply Kd.R_alloc | apply Kd.R_drewN | apply Kd.R_drew)); exact (Kd.R_mono HL140_0.out (fun _ hk_ => hk_.1))⟩, ⟨by (try simp only [hl8_2]); exact rx HO_8.out⟩, ⟨by (try simp only [hl8_2]); exact qx HO139.out⟩, ⟨by (try simp only [hl8_2]); exact bx BK122.out⟩, ⟨by (try simp only [hl8_2]); exact bx BK125.out⟩, ⟨lb⟩⟩
        case round =>
         clear H'
         try clear c1; try clear p1; try clear q1; try clear hx1; try clear qi1; try clear c2; try clear p2; try clear q2; try clear hx2; try clear hf2; try clear c3; try clear q3; try clear c4; try clear c4b0; try clear c4b1; try clear c10; try clear c12; try clear c12b0; try clear c13; try clear p13; try clear q13; try clear hx13; try clear qi13; try clear c14; try clear p14; try clear q14; try clear hx14; try clear c15; try clear c18; try clear c18b0; try clear c19; try clear c19b0; try clear p20; try clear q20; try clear hx20; try clear hf20; try clear c21; try clear c30; try clear c30b0; try clear c30b1; try clear c31; try clear c31b0; try clear c31b1; try clear c32; try clear c32b0; try clear c32b1; try clear c33; try clear c33b0; try clear c34; try clear c34b0; try clear c36; try clear q36; try clear hcz11_0; try clear hcz11_1; try clear hcz14_0; try clear hcz14_1; try clear hcz22_0; try clear hcz22_1; try clear hcz24_0; try clear hcz24_1; try clear hcz7_0; try clear hcz7_1; try clear hfz11_0; try clear hfz11_1; try clear hfz14_0; try clear hfz14_1; try clear hfz22_0; try clear hfz22_1; try clear hfz24_0; try clear hfz24_1; try clear hfz7_0; try clear hfz7_1; try clear hx136_0; try clear hx140_0; try clear hx20_0; try clear p136; try clear p140; try clear p2; try clear p20; try clear q136; try clear q140; try clear q2; try clear q20; try clear q36
         obtain ⟨x8_3, x9_3, x52_3, rfl, HA, HK3, HO_7, HL140_0, HO_8, HO_9, BK122, BK125, HB⟩ := hrel
         have hl8_3 := (Kd.R_reads' HO_8.out).1
         rw [hl8_3] at HO_8
         (try simp only [hl8_3])
         (try simp only [hl8_3] at BK122)
         (try simp only [hl8_3] at BK125)
         (try simp only [hl8_3] at HO_7)
         (try simp only [hl8_3] at HL140_0)
         (try simp only [hl8_3] at HO_9)
         cases gk with
         | zero => exact absurd HA.out (by simp [walk_Levels.l1])
         | succ k3 =>
          have H := HA.out
          clear HA
          simp only [walk_Levels.l1] at H
          by_cases c38 : x52_3 < ((rd_L2 t126 (rd x9_2 0)).length : Int)
          ·
           rw [if_pos c38] at H
           have c38b0 : decide (x52_3 < ((rd_L2 t126 (rd x9_2 0)).length : Int)) = true := decide_eq_true c38
           clear c38
           by_cases c39 : 0 ≤ x52_3
           rotate_left
           ·
            rw [if_neg c39] at H
            exact absurd H (by simp)
           rw [if_pos c39] at H
           have c39b0 : decide (0 ≤ x52_3) = true := decide_eq_true c39
           clear c39
           by_cases c40 : x52_3 < ((rd_L2 t126 (rd x9_2 0)).length : Int)
           rotate_left
           ·
            rw [if_neg c40] at H
            exact absurd H (by simp)
           rw [if_pos c40] at H
           have c40b0 : decide (x52_3 < ((rd_L2 t126 (rd x9_2 0)).length : Int)) = true := decide_eq_true c40
           clear c40
           by_cases c41 : 0 ≤ (rd (rd_L2 t126 (rd x9_2 0)) x52_3)
           rotate_left
           ·
            rw [if_neg c41] at H
            exact absurd H (by simp)
           rw [if_pos c41] at H
           have c41b0 : decide (0 ≤ (rd (rd_L2 t126 (rd x9_2 0)) x52_3)) = true := decide_eq_true c41
           clear c41
           by_cases c42 : (rd (rd_L2 t126 (rd x9_2 0)) x52_3) < (l0_1.length : Int)
           rotate_left
           ·
            rw [if_neg c42] at H
            exact absurd H (by simp)
           rw [if_pos c42] at H
           have c42b0 : decide ((rd (rd_L2 t126 (rd x9_2 0)) x52_3) < (l0_1.length : Int)) = true := decide_eq_true c42
           clear c42
           by_cases c43 : 0 ≤ ((rd_T41 l0_1 (rd (rd_L2 t126 (rd x9_2 0)) x52_3)).f1)
           rotate_left
           ·
            rw [if_neg c43] at H
            exact absurd H (by simp)
           rw [if_pos c43] at H
           have c43b0 : decide (0 ≤ ((rd_T41 l0_1 (rd (rd_L2 t126 (rd x9_2 0)) x52_3)).f1)) = true := decide_eq_true c43
           clear c43
           by_cases c44 : ((rd_T41 l0_1 (rd (rd_L2 t126 (rd x9_2 0)) x52_3)).f1) < (x8_3.length : Int)
           rotate_left
           ·
            rw [if_neg c44] at H
            exact absurd H (by simp)
           rw [if_pos c44] at H
           have c44b0 : decide (((rd_T41 l0_1 (rd (rd_L2 t126 (rd x9_2 0)) x52_3)).f1) < (x8_3.length : Int)) = true := decide_eq_true c44
           clear c44
           by_cases c45 : (rd x8_3 ((rd_T41 l0_1 (rd (rd_L2 t126 (rd x9_2 0)) x52_3)).f1)) < 0
           ·
            rw [if_pos c45] at H
            have c45b0 : decide ((rd x8_3 ((rd_T41 l0_1 (rd (rd_L2 t126 (rd x9_2 0)) x52_3)).f1)) < 0) = true := decide_eq_true c45
            clear c45
            by_cases c46 : 0 ≤ (rd x9_2 0)
            rotate_left
            ·
             rw [if_neg c46] at H
             exact absurd H (by simp)
            rw [if_pos c46] at H
            have c46b0 : decide (0 ≤ (rd x9_2 0)) = true := decide_eq_true c46
            clear c46
            by_cases c47 : (rd x9_2 0) < (x8_3.length : Int)
            rotate_left
            ·
             rw [if_neg c47] at H
             exact absurd H (by simp)
            rw [if_pos c47] at H
            have c47b0 : decide ((rd x9_2 0) < (x8_3.length : Int)) = true := decide_eq_true c47
            clear c47
            obtain ⟨y145, hy145⟩ : ∃ y_ : List Int, y_ = (x8_3.set (((rd_T41 l0_1 (rd (rd_L2 t126 (rd x9_2 0)) x52_3)).f1) : Int).toNat (wrap64 ((rd x8_3 (rd x9_2 0)) + 1))) := ⟨_, rfl⟩
            replace H : (if x9_3.length < 17592186044416 then (walk_Levels.l1 k3 t126 y145 (x9_3 ++ [(rd_T41 l0_1 (rd (rd_L2 t126 (rd x9_2 0)) x52_3)).f1]) (rd x9_2 0) (rd_L2 t126 (rd x9_2 0)) ((rd_L2 t126 (rd x9_2 0)).length : Int) (wrap64 (x52_3 + 1)) a0_0 l0_1) else (none)) = some (r1, r2) := by first | (rw [hy145]; exact H) | exact H
            have Ny145 := ak hy145
            clear hy145
            by_cases c49 : x9_3.length < 17592186044416
            rotate_left
            ·
             rw [if_neg c49] at H
             exact absurd H (by simp)
            rw [if_pos c49] at H
            have LMc49 := ak c49
            clear c49
            obtain ⟨y146, hy146⟩ : ∃ y_ : List Int, y_ = (x9_3 ++ [(rd_T41 l0_1 (rd (rd_L2 t126 (rd x9_2 0)) x52_3)).f1]) := ⟨_, rfl⟩
            replace H : (walk_Levels.l1 k3 t126 y145 y146 (rd x9_2 0) (rd_L2 t126 (rd x9_2 0)) ((rd_L2 t126 (rd x9_2 0)).length : Int) (wrap64 (x52_3 + 1)) a0_0 l0_1) = some (r1, r2) := by first | (rw [hy146]; exact H) | exact H
            have Ny146 := ak hy146
            clear hy146
            have H' := ak H
            clear H
            have p141 : 0 ≤ (x52_3 : Int) := oda
            have q141 : x52_3 < ((rd_L2 t126 (rd x9_2 0)).length : Int) := oda
            obtain ⟨ad141, e141, hx141_0⟩ := Kd.at_int (Kd.R_reads' HL140_0.out).2.2 x52_3 p141 q141
            cases e141
            (try replace hx141_0 := (HB.out.cell (World.block_lt_of_cell? w _ hx141_0)).trans hx141_0)
            replace p141 := eq_true p141
            replace q141 := eq_true q141
            have hnb50 := NB122_125.out
            have hnc50 := NB125_122.out
            have hcz51_0 : wr.cell? ⟨gb122, 0, none⟩ = some (.int .i64 a0_0) := (blk_cell BK122.out 0).trans rfl
            have hcz51_1 : wr.cell? ⟨gb122, 1, none⟩ = some (.slice A0_1 l0_1.length c0_1) := (blk_cell BK122.out 1).trans rfl
            have hfz51_0 := blk_frozen BK122.out 0
            have hfz51_1 := blk_frozen BK122.out 1
            have p142 : 0 ≤ ((rd (rd_L2 t126 (rd x9_2 0)) x52_3) : Int) := oda
            have q142 : (rd (rd_L2 t126 (rd x9_2 0)) x52_3) < (l0_1.length : Int) := oda
            obtain ⟨ad142, e142, hx142_0, hx142_1, hx142_2, hx142_3⟩ := at_T41 HR0_1.out (rd (rd_L2 t126 (rd x9_2 0)) x52_3) p142 q142
            cases e142
            (try replace hx142_0 := (HB.out.cell (World.block_lt_of_cell? w _ hx142_0)).trans hx142_0)
            (try replace hx142_1 := (HB.out.cell (World.block_lt_of_cell? w _ hx142_1)).trans hx142_1)
            (try replace hx142_2 := (HB.out.cell (World.block_lt_of_cell? w _ hx142_2)).trans hx142_2)
            (try replace hx142_3 := (HB.out.cell (World.block_lt_of_cell? w _ hx142_3)).trans hx142_3)
            replace p142 := eq_true p142
            replace q142 := eq_true q142
            have p143 : 0 ≤ (((rd_T41 l0_1 (rd (rd_L2 t126 (rd x9_2 0)) x52_3)).f1) : Int) := oda
            have q143 : ((rd_T41 l0_1 (rd (rd_L2 t126 (rd x9_2 0)) x52_3)).f1) < (x8_3.length : Int) := oda
            obtain ⟨ad143, e143, hx143_0⟩ := Kd.at_int (Kd.R_reads' HO_8.out).2.2 ((rd_T41 l0_1 (rd (rd_L2 t126 (rd x9_2 0)) x52_3)).f1) p143 q143
            obtain rfl : (⟨go20, 0, none⟩ : Addr) = ad143 := (by injection e143)
            (first | simp only [add_plain] at hx143_0 | simp only [add_at] at hx143_0 | simp only [Addr.add, Nat.zero_add] at hx143_0 | skip)
            replace p143 := eq_true p143
            replace q143 := eq_true q143
            have p144 : 0 ≤ ((rd x9_2 0) : Int) := oda
            have q144 : (rd x9_2 0) < (x8_3.length : Int) := oda
            obtain ⟨ad144, e144, hx144_0⟩ := Kd.at_int (Kd.R_reads' HO_8.out).2.2 (rd x9_2 0) p144 q144
            obtain rfl : (⟨go20, 0, none⟩ : Addr) = ad144 := (by injection e144)
            (first | simp only [add_plain] at hx144_0 | simp only [add_at] at hx144_0 | simp only [Addr.add, Nat.zero_add] at hx144_0 | skip)
            replace p144 := eq_true p144
            replace q144 := eq_true q144
            have p48 : 0 ≤ (((rd_T41 l0_1 (rd (rd_L2 t126 (rd x9_2 0)) x52_3)).f1) : Int) := oda
            have q48 : (((rd_T41 l0_1 (rd (rd_L2 t126 (rd x9_2 0)) x52_3)).f1) : Int) < ((x8_3.length : Int) : Int) := oda
            obtain ⟨hx48_0, hf48_0⟩ := Kd.R_celln 0 HO_8.out (((rd_T41 l0_1 (rd (rd_L2 t126 (rd x9_2 0)) x52_3)).f1) : Int) p48 q48
            replace p48 := eq_true p48
            replace q48 := eq_true q48
            have HP52 := Kd.R_putg HO_8.out (((rd_T41 l0_1 (rd (rd_L2 t126 (rd x9_2 0)) x52_3)).f1) : Int) (wrap64 ((rd x8_3 (rd x9_2 0)) + 1))
            go_wp2_with (first | ((with_reducible refine gate_store (t := 3) (p := 74) rfl ?_); (try (rw [drewN_self wr]; generalize hq_ : World.drewN wr _ = wr; have n0_ := ak (Kd.S_at hq_ HO_7.out); have n0_L := ak (Kd.R_at hq_ HL140_0.out); have n1_ := ak (Kd.R_at hq_ HO_8.out); have n2_ := ak (Kd.Q_at hq_ HO_9.out); have n3_ := ak (blk_at hq_ BK122.out); have n4_ := ak (blk_at hq_ BK125.out); have n5_ := ak (below_at hq_ HB.out); clear hq_ HO_7 HL140_0 HO_8 HO_9 BK122 BK125 HB; have HO_7 := n0_; have HL140_0 := n0_L; have HO_8 := n1_; have HO_9 := n2_; have BK122 := n3_; have BK125 := n4_; have HB := n5_; clear n0_ n1_ n2_ n3_ n4_ n5_; (try (have HP52 := Kd.R_putg HO_8.out (((rd_T41 l0_1 (rd (rd_L2 t126 (rd x9_2 0)) x52_3)).f1) : Int) (wrap64 ((rd x8_3 (rd x9_2 0)) + 1)))))); refine store_event (t := 3) (p := 74) (v := ?vo_w53) (w1 := (wr.setCell ⟨go20, (((rd_T41 l0_1 (rd (rd_L2 t126 (rd x9_2 0)) x52_3)).f1) : Int).toNat, none⟩ (.int .i64 (wrap64 ((rd x8_3 (rd x9_2 0)) + 1))))) ?hg ?ho ?hn ?hr ?_; (case ho => rfl); (case hg => rfl); (case hn => rfl); (case hr => first | (go_simp; done) | (go_simp; rfl)); intro w53 hw; have hg : wr.grownBy w53 (some go20) := (by rw [hw]; exact HP52.2); have hp_ : Kd.R (Kd.int .i64) 3 w53 w.heap.size (fun k_ => some k_ ≠ (u9 : Value).ownBlock) (.slice (some ⟨go20, 0, none⟩) x8_3.length co20) y145 := (by rw [hw, Ny145.out]; exact HP52.1); clear HP52; have n0_ := ak (Kd.S_after (v := (.slice (some ⟨go20, 0, none⟩) x8_3.length co20)) (v1 := (.slice (some ⟨go20, 0, none⟩) x8_3.length co20)) (ok := (fun k_ => some k_ ≠ (u9 : Value).ownBlock)) (by exact sx (Kd.S_mono HO_7.out (fun _ hk => ⟨hk.2, hk.1⟩))) hg (.inl rfl)); have n0_L := ak (Kd.R_after (v := (.slice (some ⟨go20, 0, none⟩) x8_3.length co20)) (v1 := (.slice (some ⟨go20, 0, none⟩) x8_3.length co20)) (ok := (fun k_ => some k_ ≠ (u9 : Value).ownBlock)) (by exact rx (Kd.R_mono HL140_0.out (fun _ hk => ⟨hk.2, hk.1⟩))) hg (.inl rfl)); have n1_ := ak (hp_); have n2_ := ak (Kd.Q_after (v := (.slice (some ⟨go20, 0, none⟩) x8_3.length co20)) (v1 := (.slice (some ⟨go20, 0, none⟩) x8_3.length co20)) (ok := (fun _ => True)) (by exact qx (Kd.Q_mono HO_9.out (fun _ hk => ⟨trivial, hk⟩))) hg (.inl rfl)); have n3_ := ak (blk_grown (bx BK122.out) hg (Kd.R_ne HO_8.out BK122.out (by decide))); have n4_ := ak (blk_grown (bx BK125.out) hg (Kd.R_ne HO_8.out BK125.out (by decide))); have n5_ := ak ((by rw [hw]; exact below_set (HB.out) GB20.out : Below w.heap.size w w53)); clear HO_7; clear HL140_0; clear HO_8; clear HO_9; clear BK122; clear BK125; clear HB; have HO_7 := n0_; have HL140_0 := n0_L; have HO_8 := n1_; have HO_9 := n2_; have BK122 := n3_; have BK125 := n4_; have HB := n5_; clear n0_ n1_ n2_ n3_ n4_ n5_; clear hg hw hp_) | ((with_reducible refine gate_builtin (b := .append) (xs := #[.tmp 75, .tmp 77]) rfl ?_); at_builtin; refine Kd.Q_append (Kd.int .i64) (w0 := w) w.heap.size rfl (.tmp 75) (.tmp 77) 26 3 (.int .i64 0) 8 rfl Try.underlying26 info3 rfl (by decide) (by omega) u9 x9_3 ((rd_T41 l0_1 (rd (rd_L2 t126 (rd x9_2 0)) x52_3)).f1) [.int .i64 ((rd_T41 l0_1 (rd (rd_L2 t126 (rd x9_2 0)) x52_3)).f1)] (fun k_ => some k_ ≠ (.slice (some ⟨go20, 0, none⟩) x8_3.length co20 : Value).ownBlock) (fun _ => False) rfl rfl ?aP (fun _ hk => hk.elim) ?aF ?aO ?aB ?aS ?aL ?_; (case aP => exact rfl); (case aB => exact lb); (case aF => exact (fun k_ hk => Kd.fresh' (Kd.R_lt (rx HO_8.out)) k_ hk)); (case aO => exact (by exact qx (Kd.Q_mono HO_9.out (fun _ hk => hk.2)))); (case aS => exact (below_size lb)); (case aL => have := LMc49.out; omega); intro v147 w54 ho hb hg hat; rw [← Ny146.out] at ho; have n0_ := ak (Kd.S_after (ok := (fun k_ => some k_ ≠ (.slice (some ⟨go20, 0, none⟩) x8_3.length co20 : Value).ownBlock)) (by exact sx (Kd.S_mono HO_7.out (fun _ hk => ⟨hk.2, hk.1⟩))) hg hat); have n0_L := ak (Kd.R_after (ok := (fun k_ => some k_ ≠ (.slice (some ⟨go20, 0, none⟩) x8_3.length co20 : Value).ownBlock)) (by exact rx (Kd.R_mono HL140_0.out (fun _ hk => ⟨hk.2, hk.1⟩))) hg hat); have n1_ := ak (Kd.R_after (ok := (fun _ => True)) (by exact rx (Kd.R_mono HO_8.out (fun _ hk => ⟨trivial, hk⟩))) hg hat); have n2_ := ak (blk_grown (bx BK122.out) hg (Kd.Q_ne HO_9.out BK122.out (by decide))); have n3_ := ak (blk_grown (bx BK125.out) hg (Kd.Q_ne HO_9.out BK125.out (by decide))); have n4_ := ak (hb); have n5_ := ak (ho); clear HO_7; clear HL140_0; clear HO_8; clear BK122; clear BK125; clear HB; clear HO_9; have HO_7 := n0_; have HL140_0 := n0_L; have HO_8 := n1_; have BK122 := n2_; have BK125 := n3_; have HB := n4_; have HO148 := n5_; clear n0_ n1_ n2_ n3_ n4_ n5_; clear ho hb hg hat))
            (try simp only [← hl8_3])
            go_roundg k3
            case measure => have := HJ4.out; have := HK2.out; have := HK3.out; omega
            case rel => exact ⟨(y145), (y146), (wrap64 (x52_3 + 1)), (by first | rfl | (simp [*]; done)), H', ⟨by have := HJ4.out; have := HK2.out; have := HK3.out; omega⟩, ⟨by (try simp only [hl8_2]); (try simp only [hl8_3]); exact sx HO_7.out⟩, ⟨by (try simp only [hl8_2]); (try simp only [hl8_3]); exact rx HL140_0.out⟩, ⟨by (try simp only [hl8_2]); (try simp only [hl8_3]); exact rx (Kd.R_mono HO_8.out (fun _ hk => hk.2))⟩, ⟨by (try simp only [hl8_2]); (try simp only [hl8_3]); exact qx HO148.out⟩, ⟨by (try simp only [hl8_2]); (try simp only [hl8_3]); exact bx BK122.out⟩, ⟨by (try simp only [hl8_2]); (try simp only [hl8_3]); exact bx BK125.out⟩, ⟨lb⟩⟩
           ·
            rw [if_neg c45] at H
            have c45b0 : decide ((rd x8_3 ((rd_T41 l0_1 (rd (rd_L2 t126 (rd x9_2 0)) x52_3)).f1)) < 0) = false := decide_eq_false c45
            clear c45
            have H' := ak H
            clear H
            have p141 : 0 ≤ (x52_3 : Int) := oda
            have q141 : x52_3 < ((rd_L2 t126 (rd x9_2 0)).length : Int) := oda
            obtain ⟨ad141, e141, hx141_0⟩ := Kd.at_int (Kd.R_reads' HL140_0.out).2.2 x52_3 p141 q141
            cases e141
            (try replace hx141_0 := (HB.out.cell (World.block_lt_of_cell? w _ hx141_0)).trans hx141_0)
            replace p141 := eq_true p141
            replace q141 := eq_true q141
            have hnb55 := NB122_125.out
            have hnc55 := NB125_122.out
            have hcz56_0 : wr.cell? ⟨gb122, 0, none⟩ = some (.int .i64 a0_0) := (blk_cell BK122.out 0).trans rfl
            have hcz56_1 : wr.cell? ⟨gb122, 1, none⟩ = some (.slice A0_1 l0_1.length c0_1) := (blk_cell BK122.out 1).trans rfl
            have hfz56_0 := blk_frozen BK122.out 0
            have hfz56_1 := blk_frozen BK122.out 1
            have p142 : 0 ≤ ((rd (rd_L2 t126 (rd x9_2 0)) x52_3) : Int) := oda
            have q142 : (rd (rd_L2 t126 (rd x9_2 0)) x52_3) < (l0_1.length : Int) := oda
            obtain ⟨ad142, e142, hx142_0, hx142_1, hx142_2, hx142_3⟩ := at_T41 HR0_1.out (rd (rd_L2 t126 (rd x9_2 0)) x52_3) p142 q142
            cases e142
            (try replace hx142_0 := (HB.out.cell (World.block_lt_of_cell? w _ hx142_0)).trans hx142_0)
            (try replace hx142_1 := (HB.out.cell (World.block_lt_of_cell? w _ hx142_1)).trans hx142_1)
            (try replace hx142_2 := (HB.out.cell (World.block_lt_of_cell? w _ hx142_2)).trans hx142_2)
            (try replace hx142_3 := (HB.out.cell (World.block_lt_of_cell? w _ hx142_3)).trans hx142_3)
            replace p142 := eq_true p142
            replace q142 := eq_true q142
            have p143 : 0 ≤ (((rd_T41 l0_1 (rd (rd_L2 t126 (rd x9_2 0)) x52_3)).f1) : Int) := oda
            have q143 : ((rd_T41 l0_1 (rd (rd_L2 t126 (rd x9_2 0)) x52_3)).f1) < (x8_3.length : Int) := oda
            obtain ⟨ad143, e143, hx143_0⟩ := Kd.at_int (Kd.R_reads' HO_8.out).2.2 ((rd_T41 l0_1 (rd (rd_L2 t126 (rd x9_2 0)) x52_3)).f1) p143 q143
            obtain rfl : (⟨go20, 0, none⟩ : Addr) = ad143 := (by injection e143)
            (first | simp only [add_plain] at hx143_0 | simp only [add_at] at hx143_0 | simp only [Addr.add, Nat.zero_add] at hx143_0 | skip)
            replace p143 := eq_true p143
            replace q143 := eq_true q143
            go_wp2
            repeat (go_quiet (fail); try go_wp2)
            (try simp only [← hl8_3])
            go_roundg k3
            case measure => have := HJ4.out; have := HK2.out; have := HK3.out; omega
            case rel => exact ⟨(x8_3), (x9_3), (wrap64 (x52_3 + 1)), (by first | rfl | (simp [*]; done)), H', ⟨by have := HJ4.out; have := HK2.out; have := HK3.out; omega⟩, ⟨by (try simp only [hl8_2]); (try simp only [hl8_3]); exact sx HO_7.out⟩, ⟨by (try simp only [hl8_2]); (try simp only [hl8_3]); exact rx HL140_0.out⟩, ⟨by (try simp only [hl8_2]); (try simp only [hl8_3]); exact rx HO_8.out⟩, ⟨by (try simp only [hl8_2]); (try simp only [hl8_3]); exact qx HO_9.out⟩, ⟨by (try simp only [hl8_2]); (try simp only [hl8_3]); exact bx BK122.out⟩, ⟨by (try simp only [hl8_2]); (try simp only [hl8_3]); exact bx BK125.out⟩, ⟨lb⟩⟩
          ·
           rw [if_neg c38] at H
           have c38b0 : decide (x52_3 < ((rd_L2 t126 (rd x9_2 0)).length : Int)) = false := decide_eq_false c38
           clear c38
           have H' := ak H
           clear H
           go_wp2
           repeat (go_quiet (fail); try go_wp2)
           (try simp only [← hl8_2, ← hl8_3])
           go_roundg k3
           case measure => have := HJ4.out; have := HK2.out; have := HK3.out; omega
           case rel => exact ⟨(x8_3), (x9_3), H', ⟨by have := HJ4.out; have := HK2.out; have := HK3.out; omega⟩, ⟨by (try simp only [hl8_2]); (try simp only [hl8_3]); exact sx HO_7.out⟩, ⟨by (try simp only [hl8_2]); (try simp only [hl8_3]); exact rx HO_8.out⟩, ⟨by (try simp only [hl8_2]); (try simp only [hl8_3]); exact qx HO_9.out⟩, ⟨by (try simp only [hl8_2]); (try simp only [hl8_3]); exact bx BK122.out⟩, ⟨by (try simp only [hl8_2]); (try simp only [hl8_3]); exact bx BK125.out⟩, ⟨lb⟩⟩
       ·
        rw [if_neg c30] at H
        have c30b0 : decide (0 < (x9_2.length : Int)) = false := decide_eq_false c30
        have c30b1 : decide (0 < x9_2.length) = false := decide_eq_false (by omega)
        clear c30
        simp only [Option.some.injEq, Prod.mk.injEq] at H
        obtain ⟨rfl, rfl⟩ := H
        obtain ⟨Ao57, co57, eo57, _⟩ := Kd.Q_slice HO_9.out
        subst eo57
        go_wp2
        repeat (go_quiet (fail); try go_wp2)
        go_ret2
        exact ⟨_, by first | rfl | (simp [errW_none, errW_some] <;> rfl) | (simp [*, errW_none, errW_some] <;> rfl), by exact rx (Kd.R_mono HO_8.out (fun _ hk => trivial)), lb⟩
 ·
  rw [if_neg c4] at H
  have c4b0 : (t123 == 0) = false := beq_eq_false_iff_ne.mpr c4
  have c4b1 : (t123 != 0) = true := bne_iff_ne.mpr c4
  simp only [Option.some.injEq, Prod.mk.injEq] at H
  obtain ⟨rfl, rfl⟩ := H
  go_enter Try.func13, Try.ntmps13
  go_wp2_with (first | ((with_reducible refine gate_dst (N := 2) rfl ?_); refine box_event ?hg (N := 2) ?hd (cs := #[.int .i64 a0_0, .slice A0_1 l0_1.length c0_1]) (t := 24) ?hr ?_; (case hd => rfl); (case hg => rfl); (case hr => first | (go_simp; done) | (go_simp; rfl)); intro gb122 hg w58 hbox hb; have n0_ := ak (below_step lb hb); have n1_ := ak (hbox); have n2_ := ak ((by rw [hg]; exact (below_size lb) : w.heap.size ≤ gb122)); have n3_ := ak ((by rw [hg]; exact (below_size lb) : w.heap.size ≤ gb122)); clear HB; have HB := n0_; have BK122 := n1_; have GW122 := n2_; have GE122 := n3_; clear n0_ n1_ n2_ n3_; clear hb hbox hg; have hcz59_0 : w58.cell? ⟨gb122, 0, none⟩ = some (.int .i64 a0_0) := (blk_cell BK122.out 0).trans rfl; have hcz59_1 : w58.cell? ⟨gb122, 1, none⟩ = some (.slice A0_1 l0_1.length c0_1) := (blk_cell BK122.out 1).trans rfl; have hfz59_0 := blk_frozen BK122.out 0; have hfz59_1 := blk_frozen BK122.out 1) | (go_at_call 29; (with_reducible refine (graph_Check.calls k a0_0 _ _ l0_1 t123 t124 _ ?side1 ?side2 A3.out).mono ?_); (case side1 => repeat (first | exact (Kd.C_below HR0_1.out HB.out) | (with_reducible refine Kd.C_alloc ?_ _) | (with_reducible refine Kd.C_drewN ?_ _) | (with_reducible refine Kd.C_drew ?_))); (case side2 => exact HC0_1.out); rintro e w60 ⟨rfl, hb⟩; have n0_ := ak (blk_below (bx BK122.out) hb); have n1_ := ak (below_step lb hb); clear BK122; clear HB; have BK122 := n0_; have HB := n1_; clear n0_ n1_; (try clear hb); (try clear hb2); (try clear hk); (try clear hi)) | ((with_reducible refine gate_dst (N := 6) rfl ?_); refine box_event ?hg (N := 6) ?hd (cs := #[.int .i64 0, .int .i64 0]) (t := 50) ?hr ?_; (case hd => rfl); (case hg => rfl); (case hr => first | (go_simp; done) | (go_simp; rfl)); intro gb125 hg w61 hbox hb; have n0_ := ak (blk_below (bx BK122.out) hb); have n1_ := ak (below_step lb hb); have n2_ := ak (hbox); have n3_ := ak ((by rw [hg]; exact (below_size lb) : w.heap.size ≤ gb125)); have n4_ := ak ((by rw [hg]; exact (below_size lb) : w.heap.size ≤ gb125)); have n5_ := ak ((by rw [hg]; exact Nat.ne_of_lt (blk_lt (g := gb122) (o := .cells #[.int .i64 a0_0, .slice A0_1 l0_1.length c0_1] 24 (0, 0)) (bx BK122.out)) : gb122 ≠ gb125)); have n6_ := ak ((by rw [hg]; exact Nat.ne_of_gt (blk_lt (g := gb122) (o := .cells #[.int .i64 a0_0, .slice A0_1 l0_1.length c0_1] 24 (0, 0)) (bx BK122.out)) : gb125 ≠ gb122)); clear BK122; clear HB; have BK122 := n0_; have HB := n1_; have BK125 := n2_; have GW125 := n3_; have GE125 := n4_; have NB122_125 := n5_; have NB125_122 := n6_; clear n0_ n1_ n2_ n3_ n4_ n5_ n6_; clear hb hbox hg; have hnb62 := NB125_122.out; have hnc62 := NB122_125.out; have hcz63_0 : w61.cell? ⟨gb125, 0, none⟩ = some (.int .i64 0) := (blk_cell BK125.out 0).trans rfl; have hcz63_1 : w61.cell? ⟨gb125, 1, none⟩ = some (.int .i64 0) := (blk_cell BK125.out 1).trans rfl; have hfz63_0 := blk_frozen BK125.out 0; have hfz63_1 := blk_frozen BK125.out 1))
  repeat (go_quiet (first | ((with_reducible refine gate_dst (N := 2) rfl ?_); refine box_event ?hg (N := 2) ?hd (cs := #[.int .i64 a0_0, .slice A0_1 l0_1.length c0_1]) (t := 24) ?hr ?_; (case hd => rfl); (case hg => rfl); (case hr => first | (go_simp; done) | (go_simp; rfl)); intro gb122 hg w58 hbox hb; have n0_ := ak (below_step lb hb); have n1_ := ak (hbox); have n2_ := ak ((by rw [hg]; exact (below_size lb) : w.heap.size ≤ gb122)); have n3_ := ak ((by rw [hg]; exact (below_size lb) : w.heap.size ≤ gb122)); clear HB; have HB := n0_; have BK122 := n1_; have GW122 := n2_; have GE122 := n3_; clear n0_ n1_ n2_ n3_; clear hb hbox hg; have hcz59_0 : w58.cell? ⟨gb122, 0, none⟩ = some (.int .i64 a0_0) := (blk_cell BK122.out 0).trans rfl; have hcz59_1 : w58.cell? ⟨gb122, 1, none⟩ = some (.slice A0_1 l0_1.length c0_1) := (blk_cell BK122.out 1).trans rfl; have hfz59_0 := blk_frozen BK122.out 0; have hfz59_1 := blk_frozen BK122.out 1) | (go_at_call 29; (with_reducible refine (graph_Check.calls k a0_0 _ _ l0_1 t123 t124 _ ?side1 ?side2 A3.out).mono ?_); (case side1 => repeat (first | exact (Kd.C_below HR0_1.out HB.out) | (with_reducible refine Kd.C_alloc ?_ _) | (with_reducible refine Kd.C_drewN ?_ _) | (with_reducible refine Kd.C_drew ?_))); (case side2 => exact HC0_1.out); rintro e w60 ⟨rfl, hb⟩; have n0_ := ak (blk_below (bx BK122.out) hb); have n1_ := ak (below_step lb hb); clear BK122; clear HB; have BK122 := n0_; have HB := n1_; clear n0_ n1_; (try clear hb); (try clear hb2); (try clear hk); (try clear hi)) | ((with_reducible refine gate_dst (N := 6) rfl ?_); refine box_event ?hg (N := 6) ?hd (cs := #[.int .i64 0, .int .i64 0]) (t := 50) ?hr ?_; (case hd => rfl); (case hg => rfl); (case hr => first | (go_simp; done) | (go_simp; rfl)); intro gb125 hg w61 hbox hb; have n0_ := ak (blk_below (bx BK122.out) hb); have n1_ := ak (below_step lb hb); have n2_ := ak (hbox); have n3_ := ak ((by rw [hg]; exact (below_size lb) : w.heap.size ≤ gb125)); have n4_ := ak ((by rw [hg]; exact (below_size lb) : w.heap.size ≤ gb125)); have n5_ := ak ((by rw [hg]; exact Nat.ne_of_lt (blk_lt (g := gb122) (o := .cells #[.int .i64 a0_0, .slice A0_1 l0_1.length c0_1] 24 (0, 0)) (bx BK122.out)) : gb122 ≠ gb125)); have n6_ := ak ((by rw [hg]; exact Nat.ne_of_gt (blk_lt (g := gb122) (o := .cells #[.int .i64 a0_0, .slice A0_1 l0_1.length c0_1] 24 (0, 0)) (bx BK122.out)) : gb125 ≠ gb122)); clear BK122; clear HB; have BK122 := n0_; have HB := n1_; have BK125 := n2_; have GW125 := n3_; have GE125 := n4_; have NB122_125 := n5_; have NB125_122 := n6_; clear n0_ n1_ n2_ n3_ n4_ n5_ n6_; clear hb hbox hg; have hnb62 := NB125_122.out; have hnc62 := NB122_125.out; have hcz63_0 : w61.cell? ⟨gb125, 0, none⟩ = some (.int .i64 0) := (blk_cell BK125.out 0).trans rfl; have hcz63_1 : w61.cell? ⟨gb125, 1, none⟩ = some (.int .i64 0) := (blk_cell BK125.out 1).trans rfl; have hfz63_0 := blk_frozen BK125.out 0; have hfz63_1 := blk_frozen BK125.out 1)); try go_wp2_with (first | ((with_reducible refine gate_dst (N := 2) rfl ?_); refine box_event ?hg (N := 2) ?hd (cs := #[.int .i64 a0_0, .slice A0_1 l0_1.length c0_1]) (t := 24) ?hr ?_; (case hd => rfl); (case hg => rfl); (case hr => first | (go_simp; done) | (go_simp; rfl)); intro gb122 hg w58 hbox hb; have n0_ := ak (below_step lb hb); have n1_ := ak (hbox); have n2_ := ak ((by rw [hg]; exact (below_size lb) : w.heap.size ≤ gb122)); have n3_ := ak ((by rw [hg]; exact (below_size lb) : w.heap.size ≤ gb122)); clear HB; have HB := n0_; have BK122 := n1_; have GW122 := n2_; have GE122 := n3_; clear n0_ n1_ n2_ n3_; clear hb hbox hg; have hcz59_0 : w58.cell? ⟨gb122, 0, none⟩ = some (.int .i64 a0_0) := (blk_cell BK122.out 0).trans rfl; have hcz59_1 : w58.cell? ⟨gb122, 1, none⟩ = some (.slice A0_1 l0_1.length c0_1) := (blk_cell BK122.out 1).trans rfl; have hfz59_0 := blk_frozen BK122.out 0; have hfz59_1 := blk_frozen BK122.out 1) | (go_at_call 29; (with_reducible refine (graph_Check.calls k a0_0 _ _ l0_1 t123 t124 _ ?side1 ?side2 A3.out).mono ?_); (case side1 => repeat (first | exact (Kd.C_below HR0_1.out HB.out) | (with_reducible refine Kd.C_alloc ?_ _) | (with_reducible refine Kd.C_drewN ?_ _) | (with_reducible refine Kd.C_drew ?_))); (case side2 => exact HC0_1.out); rintro e w60 ⟨rfl, hb⟩; have n0_ := ak (blk_below (bx BK122.out) hb); have n1_ := ak (below_step lb hb); clear BK122; clear HB; have BK122 := n0_; have HB := n1_; clear n0_ n1_; (try clear hb); (try clear hb2); (try clear hk); (try clear hi)) | ((with_reducible refine gate_dst (N := 6) rfl ?_); refine box_event ?hg (N := 6) ?hd (cs := #[.int .i64 0, .int .i64 0]) (t := 50) ?hr ?_; (case hd => rfl); (case hg => rfl); (case hr => first | (go_simp; done) | (go_simp; rfl)); intro gb125 hg w61 hbox hb; have n0_ := ak (blk_below (bx BK122.out) hb); have n1_ := ak (below_step lb hb); have n2_ := ak (hbox); have n3_ := ak ((by rw [hg]; exact (below_size lb) : w.heap.size ≤ gb125)); have n4_ := ak ((by rw [hg]; exact (below_size lb) : w.heap.size ≤ gb125)); have n5_ := ak ((by rw [hg]; exact Nat.ne_of_lt (blk_lt (g := gb122) (o := .cells #[.int .i64 a0_0, .slice A0_1 l0_1.length c0_1] 24 (0, 0)) (bx BK122.out)) : gb122 ≠ gb125)); have n6_ := ak ((by rw [hg]; exact Nat.ne_of_gt (blk_lt (g := gb122) (o := .cells #[.int .i64 a0_0, .slice A0_1 l0_1.length c0_1] 24 (0, 0)) (bx BK122.out)) : gb125 ≠ gb122)); clear BK122; clear HB; have BK122 := n0_; have HB := n1_; have BK125 := n2_; have GW125 := n3_; have GE125 := n4_; have NB122_125 := n5_; have NB125_122 := n6_; clear n0_ n1_ n2_ n3_ n4_ n5_ n6_; clear hb hbox hg; have hnb62 := NB125_122.out; have hnc62 := NB122_125.out; have hcz63_0 : w61.cell? ⟨gb125, 0, none⟩ = some (.int .i64 0) := (blk_cell BK125.out 0).trans rfl; have hcz63_1 : w61.cell? ⟨gb125, 1, none⟩ = some (.int .i64 0) := (blk_cell BK125.out 1).trans rfl; have hfz63_0 := blk_frozen BK125.out 0; have hfz63_1 := blk_frozen BK125.out 1)))
  go_ret2
  exact ⟨_, by first | rfl | (simp [errW_none, errW_some] <;> rfl) | (simp [*, errW_none, errW_some] <;> rfl), by first | exact Kd.R_nil _ _ _ _ _ | exact Kd.N_nil _ _ _ _ _ | exact Kd.V_nil _ _ _ _ _ | exact Kd.Q_nil _ _ _ _ _ | exact Kd.S_nil _ _ _ _ _, lb⟩

end Go.Proofs.Ytacklfnnpiobgaa.Q
