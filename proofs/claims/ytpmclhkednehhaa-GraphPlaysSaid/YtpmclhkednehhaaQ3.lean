-- PRINTED by print.py (a twelfth state) out of the translation. Not trusted: Lean checks it.
import Derived.Test.YtpmclhkednehhaaQ0
import Derived.Test.YtpmclhkednehhaaQ2
namespace Go.Proofs.Ytpmclhkednehhaa.Q
open Go.RowKit Go.Proofs.YtpmclhkednehhaaW.PrintWords Go.Proofs.YtpmclhkednehhaaW.PrintLast Go.Proofs.YtpmclhkednehhaaW.PrintMore
attribute [local go_sem] max2_int min2_int max_two min_two max_three min_three max_four min_four   -- for this text's walks alone
set_option linter.unusedVariables false
set_option linter.unusedSimpArgs false

/-! ### graph_Check: function 29 -/
mutual
def graph_Check.j0 : Nat → Bool → Int → List (S39) → Option (Int × Int)
  | 0, _, _, _ => none
  | k + 1, x18, x103000, x103001 => if x18 = true then (some (3, 0)) else (graph_Check.l0 k x103001 (x103001.length : Int) 0 x103000 x103001)
def graph_Check.l0 : Nat → List (S39) → Int → Int → Int → List (S39) → Option (Int × Int)
  | 0, _, _, _, _, _ => none
  | k + 1, x21, x22, x23, x103000, x103001 => if x23 < x22 then (if 0 ≤ x23 then (if x23 < (x21.length : Int) then (if ((rd_T39 x21 x23).f0) < 0 then (graph_Check.j2 k x23 x21 x22 x23 true x103000 x103001 ((rd_T39 x21 x23).f0) ((rd_T39 x21 x23).f1) ((rd_T39 x21 x23).f2) ((rd_T39 x21 x23).f3)) else (if ((rd_T39 x21 x23).f0) ≥ x103000 then (graph_Check.j2 k x23 x21 x22 x23 true x103000 x103001 ((rd_T39 x21 x23).f0) ((rd_T39 x21 x23).f1) ((rd_T39 x21 x23).f2) ((rd_T39 x21 x23).f3)) else (if ((rd_T39 x21 x23).f1) < 0 then (graph_Check.j2 k x23 x21 x22 x23 true x103000 x103001 ((rd_T39 x21 x23).f0) ((rd_T39 x21 x23).f1) ((rd_T39 x21 x23).f2) ((rd_T39 x21 x23).f3)) else (graph_Check.j2 k x23 x21 x22 x23 (decide (((rd_T39 x21 x23).f1) ≥ x103000)) x103000 x103001 ((rd_T39 x21 x23).f0) ((rd_T39 x21 x23).f1) ((rd_T39 x21 x23).f2) ((rd_T39 x21 x23).f3))))) else (none)) else (none)) else (some (0, 0))
def graph_Check.j2 : Nat → Int → List (S39) → Int → Int → Bool → Int → List (S39) → Int → Int → Int → Int → Option (Int × Int)
  | 0, _, _, _, _, _, _, _, _, _, _, _ => none
  | k + 1, x3, x21, x22, x23, x28, x103000, x103001, x106000, x106001, x106002, x106003 => if x28 = true then (some (30, x3)) else ((graph_label.f x106000 x106001 x106002 x106003).bind fun t106 => (if t106 = true then (graph_Check.l0 k x21 x22 (wrap64 (x23 + 1)) x103000 x103001) else (some (31, x3))))
end
def graph_Check.f (k : Nat) (a0_0 : Int) (l0_1 : List (S39)) : Option (Int × Int) := if a0_0 < 0 then (graph_Check.j0 k true a0_0 l0_1) else (if a0_0 > 1024 then (graph_Check.j0 k true a0_0 l0_1) else (graph_Check.j0 k (decide ((l0_1.length : Int) > 4096)) a0_0 l0_1))
theorem graph_Check.mono_l : ∀ k, (∀ y0 y1 y2, LeO (graph_Check.j0 k y0 y1 y2) (graph_Check.j0 (k + 1) y0 y1 y2)) ∧ (∀ y0 y1 y2 y3 y4, LeO (graph_Check.l0 k y0 y1 y2 y3 y4) (graph_Check.l0 (k + 1) y0 y1 y2 y3 y4)) ∧ (∀ y0 y1 y2 y3 y4 y5 y6 y7 y8 y9 y10, LeO (graph_Check.j2 k y0 y1 y2 y3 y4 y5 y6 y7 y8 y9 y10) (graph_Check.j2 (k + 1) y0 y1 y2 y3 y4 y5 y6 y7 y8 y9 y10))
  | 0 => ⟨fun _ _ _ r h => by simp [graph_Check.j0] at h, fun _ _ _ _ _ r h => by simp [graph_Check.l0] at h, fun _ _ _ _ _ _ _ _ _ _ _ r h => by simp [graph_Check.j2] at h⟩
  | k + 1 => by
    obtain ⟨ih0, ih1, ih2⟩ := graph_Check.mono_l k
    refine ⟨?_, ?_, ?_⟩
    · intro y0 y1 y2
      unfold graph_Check.j0
      repeat' first
      | (with_reducible exact ih0 _ _ _)
      | (with_reducible exact ih1 _ _ _ _ _)
      | (with_reducible exact ih2 _ _ _ _ _ _ _ _ _ _ _)
      | (with_reducible exact LeO.refl _)
      | (with_reducible exact LeO.none _)
      | (with_reducible refine LeO.ite ?_ ?_)
      | (with_reducible refine LeO.bind ?_ (fun _ => ?_))
      | exact ih0 _ _ _
      | exact ih1 _ _ _ _ _
      | exact ih2 _ _ _ _ _ _ _ _ _ _ _
      | exact LeO.none _
      | refine LeO.ite ?_ ?_
      | refine LeO.bind ?_ (fun _ => ?_)
    · intro y0 y1 y2 y3 y4
      unfold graph_Check.l0
      repeat' first
      | (with_reducible exact ih0 _ _ _)
      | (with_reducible exact ih1 _ _ _ _ _)
      | (with_reducible exact ih2 _ _ _ _ _ _ _ _ _ _ _)
      | (with_reducible exact LeO.refl _)
      | (with_reducible exact LeO.none _)
      | (with_reducible refine LeO.ite ?_ ?_)
      | (with_reducible refine LeO.bind ?_ (fun _ => ?_))
      | exact ih0 _ _ _
      | exact ih1 _ _ _ _ _
      | exact ih2 _ _ _ _ _ _ _ _ _ _ _
      | exact LeO.none _
      | refine LeO.ite ?_ ?_
      | refine LeO.bind ?_ (fun _ => ?_)
    · intro y0 y1 y2 y3 y4 y5 y6 y7 y8 y9 y10
      unfold graph_Check.j2
      repeat' first
      | (with_reducible exact ih0 _ _ _)
      | (with_reducible exact ih1 _ _ _ _ _)
      | (with_reducible exact ih2 _ _ _ _ _ _ _ _ _ _ _)
      | (with_reducible exact LeO.refl _)
      | (with_reducible exact LeO.none _)
      | (with_reducible refine LeO.ite ?_ ?_)
      | (with_reducible refine LeO.bind ?_ (fun _ => ?_))
      | exact ih0 _ _ _
      | exact ih1 _ _ _ _ _
      | exact ih2 _ _ _ _ _ _ _ _ _ _ _
      | exact LeO.none _
      | refine LeO.ite ?_ ?_
      | refine LeO.bind ?_ (fun _ => ?_)
theorem graph_Check.mono : ∀ a0 a1 k, LeO (graph_Check.f k a0 a1) (graph_Check.f (k + 1) a0 a1) := by
  intro a0 a1 k
  obtain ⟨ih0, ih1, ih2⟩ := graph_Check.mono_l k
  unfold graph_Check.f
  repeat' first
      | (with_reducible exact ih0 _ _ _)
      | (with_reducible exact ih1 _ _ _ _ _)
      | (with_reducible exact ih2 _ _ _ _ _ _ _ _ _ _ _)
      | (with_reducible exact LeO.refl _)
      | (with_reducible exact LeO.none _)
      | (with_reducible refine LeO.ite ?_ ?_)
      | (with_reducible refine LeO.bind ?_ (fun _ => ?_))
      | exact ih0 _ _ _
      | exact ih1 _ _ _ _ _
      | exact ih2 _ _ _ _ _ _ _ _ _ _ _
      | exact LeO.none _
      | refine LeO.ite ?_ ?_
      | refine LeO.bind ?_ (fun _ => ?_)
set_option maxHeartbeats 8000000 in
set_option maxRecDepth 100000 in
theorem graph_Check.calls (k : Nat) (a0_0 : Int) (A0_1 : Option Addr) (c0_1 : Nat) (l0_1 : List (S39)) (r1 : Int) (r2 : Int) (w : World) (hr0_1 : Kd.C k39 w A0_1 l0_1.length l0_1) (hc0_1 : l0_1.length ≤ c0_1) (h : graph_Check.f k a0_0 l0_1 = some (r1, r2)) :
    Calls Try.prog 9 #[.agg #[.int .i64 a0_0, .slice A0_1 l0_1.length c0_1]] w fun e w' => e = .returned (.agg #[.int .i64 r1, .int .i64 r2]) ∧ Below w.heap.size w w' := by
 have hu24 := Try.underlying24
 have hu50 := Try.underlying28
 have hu41 := Try.underlying39
 have HR0_1 := ak hr0_1
 have HC0_1 := ak hc0_1
 clear hr0_1 hc0_1
 have HB := ak (Below.refl w.heap.size w)
 have H : (if a0_0 < 0 then (graph_Check.j0 k true a0_0 l0_1) else (if a0_0 > 1024 then (graph_Check.j0 k true a0_0 l0_1) else (graph_Check.j0 k (decide ((l0_1.length : Int) > 4096)) a0_0 l0_1))) = some (r1, r2) := h
 clear h
 have HC2 := ak H
 clear H
 go_enter Try.func9, Try.ntmps9
 go_upto_region 1 with (first | ((with_reducible refine gate_dst (N := 1) rfl ?_); (try (refine gate_guard (by rfl) ?_; dsimp only)); refine box_event ?hg (N := 1) ?hd (cs := #[.int .i64 a0_0, .slice A0_1 l0_1.length c0_1]) (t := 24) ?hr ?_; (case hd => rfl); (case hg => rfl); (case hr => first | (go_simp; done) | (go_simp; rfl)); intro gb102 hg w3 hbox hb; have n0_ := ak (below_step lb hb); have n1_ := ak (hbox); have n2_ := ak ((by rw [hg]; exact (below_size lb) : w.heap.size ≤ gb102)); have n3_ := ak ((by rw [hg]; exact (below_size lb) : w.heap.size ≤ gb102)); clear HB; have HB := n0_; have BK102 := n1_; have GW102 := n2_; have GE102 := n3_; clear n0_ n1_ n2_ n3_; clear hb hbox hg) | ((with_reducible refine gate_dst (N := 2) rfl ?_); (try (refine gate_guard (by rfl) ?_; dsimp only)); refine box_event ?hg (N := 2) ?hd (cs := #[.int .i64 0, .int .i64 0]) (t := 28) ?hr ?_; (case hd => rfl); (case hg => rfl); (case hr => first | (go_simp; done) | (go_simp; rfl)); intro gb103 hg w4 hbox hb; have n0_ := ak (blk_below (bx BK102.out) hb); have n1_ := ak (below_step lb hb); have n2_ := ak (hbox); have n3_ := ak ((by rw [hg]; exact (below_size lb) : w.heap.size ≤ gb103)); have n4_ := ak ((by rw [hg]; exact (below_size lb) : w.heap.size ≤ gb103)); have n5_ := ak ((by rw [hg]; exact Nat.ne_of_lt (blk_lt (g := gb102) (o := .cells #[.int .i64 a0_0, .slice A0_1 l0_1.length c0_1] 24 (0, 0)) (bx BK102.out)) : gb102 ≠ gb103)); have n6_ := ak ((by rw [hg]; exact Nat.ne_of_gt (blk_lt (g := gb102) (o := .cells #[.int .i64 a0_0, .slice A0_1 l0_1.length c0_1] 24 (0, 0)) (bx BK102.out)) : gb103 ≠ gb102)); clear BK102; clear HB; have BK102 := n0_; have HB := n1_; have BK103 := n2_; have GW103 := n3_; have GE103 := n4_; have NB102_103 := n5_; have NB103_102 := n6_; clear n0_ n1_ n2_ n3_ n4_ n5_ n6_; clear hb hbox hg))
 (try simp only [Act.put, List.setIfInBounds_toArray, List.set_cons_zero, List.set_cons_succ])
 go_cut [18] (fun v18 wc => ∃ (kq : Nat) (x18_1 : Bool), v18 = .bool x18_1 ∧ Aside0 (graph_Check.j0 kq x18_1 a0_0 l0_1 = some (r1, r2)) ∧ Aside0 (kq ≤ k) ∧ Aside0 (wc.heap[gb102]? = some (.cells #[.int .i64 a0_0, (.slice A0_1 l0_1.length c0_1)] 24 (0, 0))) ∧ Aside0 (wc.heap[gb103]? = some (.cells #[.int .i64 0, .int .i64 0] 28 (0, 0))) ∧ Aside0 (Below w.heap.size w wc))
 case first =>
  have H := HC2.out
  clear HC2
  by_cases c5 : a0_0 < 0
  ·
   rw [if_pos c5] at H
   have c5b0 : decide (a0_0 < 0) = true := decide_eq_true c5
   clear c5
   (first | rw [c5b0] | (simp only [i64_w, i32_w]; rw [c5b0]) | skip)
   have H' := ak H
   clear H
   have hnb6 := NB102_103.out
   have hnc6 := NB103_102.out
   have hcz7_0 : w4.cell? ⟨gb102, 0, none⟩ = some (.int .i64 a0_0) := (blk_cell BK102.out 0).trans rfl
   have hcz7_1 : w4.cell? ⟨gb102, 1, none⟩ = some (.slice A0_1 l0_1.length c0_1) := (blk_cell BK102.out 1).trans rfl
   have hfz7_0 := blk_frozen BK102.out 0
   have hfz7_1 := blk_frozen BK102.out 1
   go_wp2
   go_meet
   case rel => exact ⟨_, (true), (by first | rfl | (simp [*]; done)), H', ⟨by first | omega | exact Nat.le_refl _⟩, ⟨bx BK102.out⟩, ⟨bx BK103.out⟩, ⟨lb⟩⟩
  ·
   rw [if_neg c5] at H
   have c5b0 : decide (a0_0 < 0) = false := decide_eq_false c5
   clear c5
   (first | rw [c5b0] | (simp only [i64_w, i32_w]; rw [c5b0]) | skip)
   by_cases c8 : a0_0 > 1024
   ·
    rw [if_pos c8] at H
    have c8b0 : decide (1024 < a0_0) = true := decide_eq_true c8
    clear c8
    have H' := ak H
    clear H
    have hnb9 := NB102_103.out
    have hnc9 := NB103_102.out
    have hcz10_0 : w4.cell? ⟨gb102, 0, none⟩ = some (.int .i64 a0_0) := (blk_cell BK102.out 0).trans rfl
    have hcz10_1 : w4.cell? ⟨gb102, 1, none⟩ = some (.slice A0_1 l0_1.length c0_1) := (blk_cell BK102.out 1).trans rfl
    have hfz10_0 := blk_frozen BK102.out 0
    have hfz10_1 := blk_frozen BK102.out 1
    go_wp2
    go_meet
    case rel => exact ⟨_, (true), (by first | rfl | (simp [*]; done)), H', ⟨by first | omega | exact Nat.le_refl _⟩, ⟨bx BK102.out⟩, ⟨bx BK103.out⟩, ⟨lb⟩⟩
   ·
    rw [if_neg c8] at H
    have c8b0 : decide (1024 < a0_0) = false := decide_eq_false c8
    clear c8
    have H' := ak H
    clear H
    have hnb11 := NB102_103.out
    have hnc11 := NB103_102.out
    have hcz12_0 : w4.cell? ⟨gb102, 0, none⟩ = some (.int .i64 a0_0) := (blk_cell BK102.out 0).trans rfl
    have hcz12_1 : w4.cell? ⟨gb102, 1, none⟩ = some (.slice A0_1 l0_1.length c0_1) := (blk_cell BK102.out 1).trans rfl
    have hfz12_0 := blk_frozen BK102.out 0
    have hfz12_1 := blk_frozen BK102.out 1
    go_wp2
    go_meet
    case rel => exact ⟨_, (decide ((l0_1.length : Int) > 4096)), (by first | rfl | (simp [*]; done)), H', ⟨by first | omega | exact Nat.le_refl _⟩, ⟨bx BK102.out⟩, ⟨bx BK103.out⟩, ⟨lb⟩⟩
 case rest =>
  clear HC2
  try clear c1; try clear c2; try clear p2; try clear c5; try clear c5b0; try clear c6; try clear c8; try clear c8b0; try clear c9; try clear c11; try clear hcz10_0; try clear hcz10_1; try clear hcz12_0; try clear hcz12_1; try clear hcz7_0; try clear hcz7_1; try clear hfz10_0; try clear hfz10_1; try clear hfz12_0; try clear hfz12_1; try clear hfz7_0; try clear hfz7_1
  obtain ⟨kq, x18_1, rfl, HA, HJ1, BK102, BK103, HB⟩ := hcut
  cases kq with
  | zero => exact absurd HA.out (by simp [graph_Check.j0])
  | succ kj1 =>
   have H := HA.out
   clear HA
   simp only [graph_Check.j0] at H
   by_cases c13 : x18_1 = true
   ·
    subst c13
    have H1 : (some (3, 0)) = some (r1, r2) := by rw [if_pos rfl] at H; exact H
    clear H
    have H := H1
    clear H1
    simp only [Option.some.injEq, Prod.mk.injEq] at H
    obtain ⟨rfl, rfl⟩ := H
    have hnb14 := NB103_102.out
    have hnc14 := NB102_103.out
    have hcz15_0 : wc.cell? ⟨gb103, 0, none⟩ = some (.int .i64 0) := (blk_cell BK103.out 0).trans rfl
    have hcz15_1 : wc.cell? ⟨gb103, 1, none⟩ = some (.int .i64 0) := (blk_cell BK103.out 1).trans rfl
    have hfz15_0 := blk_frozen BK103.out 0
    have hfz15_1 := blk_frozen BK103.out 1
    go_wp2
    refine bodyPost_ret (results_cell_row rfl _ _ gb103 28 #[.int .i64 3, .int .i64 0] (0, 0) _ rfl (by (with_reducible repeat (first | refine blk_drewN ?_ _ | refine blk_drew ?_ | refine blk_alloc ?_ _)); refine blk_put (cs := #[.int .i64 3, .int .i64 0]) ?_ 1 _ rfl; (with_reducible repeat (first | refine blk_drewN ?_ _ | refine blk_drew ?_ | refine blk_alloc ?_ _)); refine blk_put (cs := #[.int .i64 0, .int .i64 0]) ?_ 0 _ rfl; exact bx BK103.out) Try.underlying28 rfl (by kernel_rfl)) rfl ?_
    exact ⟨by first | rfl | (simp [errW_none, errW_some] <;> rfl) | (simp [*, errW_none, errW_some] <;> rfl), lb⟩
   ·
    replace c13 := Bool.eq_false_iff.mpr c13
    subst c13
    have H1 : (graph_Check.l0 kj1 l0_1 (l0_1.length : Int) 0 a0_0 l0_1) = some (r1, r2) := by rw [if_neg (show ¬ (false = true) by decide)] at H; exact H
    clear H
    have H := H1
    clear H1
    have H' := ak H
    clear H
    have hnb16 := NB102_103.out
    have hnc16 := NB103_102.out
    have hcz17_0 : wc.cell? ⟨gb102, 0, none⟩ = some (.int .i64 a0_0) := (blk_cell BK102.out 0).trans rfl
    have hcz17_1 : wc.cell? ⟨gb102, 1, none⟩ = some (.slice A0_1 l0_1.length c0_1) := (blk_cell BK102.out 1).trans rfl
    have hfz17_0 := blk_frozen BK102.out 0
    have hfz17_1 := blk_frozen BK102.out 1
    go_wp2
    go_loopg [23] kj1 (fun kq v23 w' => ∃ (x23_2 : Int) (x104000_2 : Int) (x104001_2 : Int), v23 = .int .i64 x23_2 ∧ Aside0 (graph_Check.l0 kq l0_1 (l0_1.length : Int) x23_2 a0_0 l0_1 = some (r1, r2)) ∧ Aside0 (kq ≤ kj1) ∧ Aside0 (w'.heap[gb102]? = some (.cells #[.int .i64 a0_0, (.slice A0_1 l0_1.length c0_1)] 24 (0, 0))) ∧ Aside0 (w'.heap[gb103]? = some (.cells #[.int .i64 x104000_2, .int .i64 x104001_2] 28 (0, 0))) ∧ Aside0 (Below w.heap.size w w'))
    case atStart => exact ⟨(0), (0), (0), (by first | rfl | (simp [*]; done)), H', ⟨Nat.le_refl _⟩, ⟨bx BK102.out⟩, ⟨bx BK103.out⟩, ⟨lb⟩⟩
    case round =>
     clear H'
     try clear c1; try clear c2; try clear p2; try clear c5; try clear c5b0; try clear c6; try clear c8; try clear c8b0; try clear c9; try clear c11; try clear c13; try clear c14; try clear c16; try clear hcz10_0; try clear hcz10_1; try clear hcz12_0; try clear hcz12_1; try clear hcz15_0; try clear hcz15_1; try clear hcz17_0; try clear hcz17_1; try clear hcz7_0; try clear hcz7_1; try clear hfz10_0; try clear hfz10_1; try clear hfz12_0; try clear hfz12_1; try clear hfz15_0; try clear hfz15_1; try clear hfz17_0; try clear hfz17_1; try clear hfz7_0; try clear hfz7_1; try clear p2
     obtain ⟨x23_2, x104000_2, x104001_2, rfl, HA, HK2, BK102, BK103, HB⟩ := hrel
     cases gk with
     | zero => exact absurd HA.out (by simp [graph_Check.l0])
     | succ k2 =>
      have H := HA.out
      clear HA
      simp only [graph_Check.l0] at H
      by_cases c18 : x23_2 < (l0_1.length : Int)
      ·
       rw [if_pos c18] at H
       have c18b0 : decide (x23_2 < (l0_1.length : Int)) = true := decide_eq_true c18
       clear c18
       by_cases c19 : 0 ≤ x23_2
       rotate_left
       ·
        rw [if_neg c19] at H
        exact absurd H (by simp)
       rw [if_pos c19] at H
       have c19b0 : decide (0 ≤ x23_2) = true := decide_eq_true c19
       clear c19
       by_cases c20 : x23_2 < (l0_1.length : Int)
       rotate_left
       ·
        rw [if_neg c20] at H
        exact absurd H (by simp)
       rw [if_pos c20] at H
       have c20b0 : decide (x23_2 < (l0_1.length : Int)) = true := decide_eq_true c20
       clear c20
       have HC21 := ak H
       clear H
       have p104 : 0 ≤ (x23_2 : Int) := oda
       have q104 : x23_2 < (l0_1.length : Int) := oda
       obtain ⟨ad104, e104, hx104_0, hx104_1, hx104_2, hx104_3⟩ := at_T39 HR0_1.out x23_2 p104 q104
       cases e104
       (try replace hx104_0 := (HB.out.cell (World.block_lt_of_cell? w _ hx104_0)).trans hx104_0)
       (try replace hx104_1 := (HB.out.cell (World.block_lt_of_cell? w _ hx104_1)).trans hx104_1)
       (try replace hx104_2 := (HB.out.cell (World.block_lt_of_cell? w _ hx104_2)).trans hx104_2)
       (try replace hx104_3 := (HB.out.cell (World.block_lt_of_cell? w _ hx104_3)).trans hx104_3)
       replace p104 := eq_true p104
       replace q104 := eq_true q104
       go_upto_region 6 with (first | ((with_reducible refine gate_dst (N := 4) rfl ?_); (try (refine gate_guard (by rfl) ?_; dsimp only)); refine box_event ?hg (N := 4) ?hd (cs := #[.int .i64 0, .int .i64 0, .int .i64 0, .int .i64 0]) (t := 39) ?hr ?_; (case hd => rfl); (case hg => rfl); (case hr => first | (go_simp; done) | (go_simp; rfl)); intro gb105 hg w22 hbox hb; have n0_ := ak (blk_below (bx BK102.out) hb); have n1_ := ak (blk_below (bx BK103.out) hb); have n2_ := ak (below_step lb hb); have n3_ := ak (hbox); have n4_ := ak ((by rw [hg]; exact (below_size lb) : w.heap.size ≤ gb105)); have n5_ := ak ((by rw [hg]; exact (below_size lb) : w.heap.size ≤ gb105)); have n6_ := ak ((by rw [hg]; exact Nat.ne_of_lt (blk_lt (g := gb102) (o := .cells #[.int .i64 a0_0, .slice (some ad104) l0_1.length c0_1] 24 (0, 0)) (bx BK102.out)) : gb102 ≠ gb105)); have n7_ := ak ((by rw [hg]; exact Nat.ne_of_gt (blk_lt (g := gb102) (o := .cells #[.int .i64 a0_0, .slice (some ad104) l0_1.length c0_1] 24 (0, 0)) (bx BK102.out)) : gb105 ≠ gb102)); have n8_ := ak ((by rw [hg]; exact Nat.ne_of_lt (blk_lt (g := gb103) (o := .cells #[.int .i64 x104000_2, .int .i64 x104001_2] 28 (0, 0)) (bx BK103.out)) : gb103 ≠ gb105)); have n9_ := ak ((by rw [hg]; exact Nat.ne_of_gt (blk_lt (g := gb103) (o := .cells #[.int .i64 x104000_2, .int .i64 x104001_2] 28 (0, 0)) (bx BK103.out)) : gb105 ≠ gb103)); clear BK102; clear BK103; clear HB; have BK102 := n0_; have BK103 := n1_; have HB := n2_; have BK105 := n3_; have GW105 := n4_; have GE105 := n5_; have NB102_105 := n6_; have NB105_102 := n7_; have NB103_105 := n8_; have NB105_103 := n9_; clear n0_ n1_ n2_ n3_ n4_ n5_ n6_ n7_ n8_ n9_; clear hb hbox hg; have hnb23 := NB105_102.out; have hnc23 := NB102_105.out; have hnb24 := NB105_103.out; have hnc24 := NB103_105.out; have hcz25_0 : w22.cell? ⟨gb105, 0, none⟩ = some (.int .i64 0) := (blk_cell BK105.out 0).trans rfl; have hcz25_1 : w22.cell? ⟨gb105, 1, none⟩ = some (.int .i64 0) := (blk_cell BK105.out 1).trans rfl; have hcz25_2 : w22.cell? ⟨gb105, 2, none⟩ = some (.int .i64 0) := (blk_cell BK105.out 2).trans rfl; have hcz25_3 : w22.cell? ⟨gb105, 3, none⟩ = some (.int .i64 0) := (blk_cell BK105.out 3).trans rfl; have hfz25_0 := blk_frozen BK105.out 0; have hfz25_1 := blk_frozen BK105.out 1; have hfz25_2 := blk_frozen BK105.out 2; have hfz25_3 := blk_frozen BK105.out 3))
       (try simp only [Act.put, List.setIfInBounds_toArray, List.set_cons_zero, List.set_cons_succ])
       go_cut [28] (fun v28 wc => ∃ (kq : Nat) (x28_20 : Bool), v28 = .bool x28_20 ∧ Aside0 (graph_Check.j2 kq x23_2 l0_1 (l0_1.length : Int) x23_2 x28_20 a0_0 l0_1 ((rd_T39 l0_1 x23_2).f0) ((rd_T39 l0_1 x23_2).f1) ((rd_T39 l0_1 x23_2).f2) ((rd_T39 l0_1 x23_2).f3) = some (r1, r2)) ∧ Aside0 (kq ≤ k2) ∧ Aside0 (wc.heap[gb102]? = some (.cells #[.int .i64 a0_0, (.slice (some ad104) l0_1.length c0_1)] 24 (0, 0))) ∧ Aside0 (wc.heap[gb103]? = some (.cells #[.int .i64 x104000_2, .int .i64 x104001_2] 28 (0, 0))) ∧ Aside0 (wc.heap[gb105]? = some (.cells #[.int .i64 ((rd_T39 l0_1 x23_2).f0), .int .i64 ((rd_T39 l0_1 x23_2).f1), .int .i64 ((rd_T39 l0_1 x23_2).f2), .int .i64 ((rd_T39 l0_1 x23_2).f3)] 39 (0, 0))) ∧ Aside0 (Below w.heap.size w wc))
       case first =>
        have H := HC21.out
        clear HC21
        by_cases c26 : ((rd_T39 l0_1 x23_2).f0) < 0
        ·
         rw [if_pos c26] at H
         have c26b0 : decide (((rd_T39 l0_1 x23_2).f0) < 0) = true := decide_eq_true c26
         clear c26
         (first | rw [c26b0] | (simp only [i64_w, i32_w]; rw [c26b0]) | skip)
         have H' := ak H
         clear H
         have hnb27 := NB105_102.out
         have hnc27 := NB102_105.out
         have hnb28 := NB105_103.out
         have hnc28 := NB103_105.out
         have hcz29_0 : w22.cell? ⟨gb105, 0, none⟩ = some (.int .i64 0) := (blk_cell BK105.out 0).trans rfl
         have hcz29_1 : w22.cell? ⟨gb105, 1, none⟩ = some (.int .i64 0) := (blk_cell BK105.out 1).trans rfl
         have hcz29_2 : w22.cell? ⟨gb105, 2, none⟩ = some (.int .i64 0) := (blk_cell BK105.out 2).trans rfl
         have hcz29_3 : w22.cell? ⟨gb105, 3, none⟩ = some (.int .i64 0) := (blk_cell BK105.out 3).trans rfl
         have hfz29_0 := blk_frozen BK105.out 0
         have hfz29_1 := blk_frozen BK105.out 1
         have hfz29_2 := blk_frozen BK105.out 2
         have hfz29_3 := blk_frozen BK105.out 3
         go_wp2
         go_meet
         case rel => exact ⟨_, (true), (by first | rfl | (simp [*]; done)), H', ⟨by have := HJ1.out; have := HK2.out; first | omega | exact Nat.le_refl _⟩, ⟨by (with_reducible repeat (first | refine blk_drewN ?_ _ | refine blk_drew ?_ | refine blk_alloc ?_ _)); refine blk_far ?_ NB102_105.out _; (with_reducible repeat (first | refine blk_drewN ?_ _ | refine blk_drew ?_ | refine blk_alloc ?_ _)); refine blk_far ?_ NB102_105.out _; (with_reducible repeat (first | refine blk_drewN ?_ _ | refine blk_drew ?_ | refine blk_alloc ?_ _)); refine blk_far ?_ NB102_105.out _; (with_reducible repeat (first | refine blk_drewN ?_ _ | refine blk_drew ?_ | refine blk_alloc ?_ _)); refine blk_far ?_ NB102_105.out _; exact bx BK102.out⟩, ⟨by (with_reducible repeat (first | refine blk_drewN ?_ _ | refine blk_drew ?_ | refine blk_alloc ?_ _)); refine blk_far ?_ NB103_105.out _; (with_reducible repeat (first | refine blk_drewN ?_ _ | refine blk_drew ?_ | refine blk_alloc ?_ _)); refine blk_far ?_ NB103_105.out _; (with_reducible repeat (first | refine blk_drewN ?_ _ | refine blk_drew ?_ | refine blk_alloc ?_ _)); refine blk_far ?_ NB103_105.out _; (with_reducible repeat (first | refine blk_drewN ?_ _ | refine blk_drew ?_ | refine blk_alloc ?_ _)); refine blk_far ?_ NB103_105.out _; exact bx BK103.out⟩, ⟨by (with_reducible repeat (first | refine blk_drewN ?_ _ | refine blk_drew ?_ | refine blk_alloc ?_ _)); refine blk_put (cs := #[.int .i64 ((rd_T39 l0_1 x23_2).f0), .int .i64 ((rd_T39 l0_1 x23_2).f1), .int .i64 ((rd_T39 l0_1 x23_2).f2), .int .i64 0]) ?_ 3 _ rfl; (with_reducible repeat (first | refine blk_drewN ?_ _ | refine blk_drew ?_ | refine blk_alloc ?_ _)); refine blk_put (cs := #[.int .i64 ((rd_T39 l0_1 x23_2).f0), .int .i64 ((rd_T39 l0_1 x23_2).f1), .int .i64 0, .int .i64 0]) ?_ 2 _ rfl; (with_reducible repeat (first | refine blk_drewN ?_ _ | refine blk_drew ?_ | refine blk_alloc ?_ _)); refine blk_put (cs := #[.int .i64 ((rd_T39 l0_1 x23_2).f0), .int .i64 0, .int .i64 0, .int .i64 0]) ?_ 1 _ rfl; (with_reducible repeat (first | refine blk_drewN ?_ _ | refine blk_drew ?_ | refine blk_alloc ?_ _)); refine blk_put (cs := #[.int .i64 0, .int .i64 0, .int .i64 0, .int .i64 0]) ?_ 0 _ rfl; exact bx BK105.out⟩, ⟨lb⟩⟩
        ·
         rw [if_neg c26] at H
         have c26b0 : decide (((rd_T39 l0_1 x23_2).f0) < 0) = false := decide_eq_false c26
         clear c26
         (first | rw [c26b0] | (simp only [i64_w, i32_w]; rw [c26b0]) | skip)
         by_cases c30 : ((rd_T39 l0_1 x23_2).f0) ≥ a0_0
         ·
          rw [if_pos c30] at H
          have c30b0 : decide (a0_0 ≤ ((rd_T39 l0_1 x23_2).f0)) = true := decide_eq_true c30
          clear c30
          have H' := ak H
          clear H
          have hnb31 := NB105_102.out
          have hnc31 := NB102_105.out
          have hnb32 := NB105_103.out
          have hnc32 := NB103_105.out
          have hcz33_0 : w22.cell? ⟨gb105, 0, none⟩ = some (.int .i64 0) := (blk_cell BK105.out 0).trans rfl
          have hcz33_1 : w22.cell? ⟨gb105, 1, none⟩ = some (.int .i64 0) := (blk_cell BK105.out 1).trans rfl
          have hcz33_2 : w22.cell? ⟨gb105, 2, none⟩ = some (.int .i64 0) := (blk_cell BK105.out 2).trans rfl
          have hcz33_3 : w22.cell? ⟨gb105, 3, none⟩ = some (.int .i64 0) := (blk_cell BK105.out 3).trans rfl
          have hfz33_0 := blk_frozen BK105.out 0
          have hfz33_1 := blk_frozen BK105.out 1
          have hfz33_2 := blk_frozen BK105.out 2
          have hfz33_3 := blk_frozen BK105.out 3
          have hnb34 := NB102_103.out
          have hnc34 := NB103_102.out
          have hcz35_0 : w22.cell? ⟨gb102, 0, none⟩ = some (.int .i64 a0_0) := (blk_cell BK102.out 0).trans rfl
          have hcz35_1 : w22.cell? ⟨gb102, 1, none⟩ = some (.slice (some ad104) l0_1.length c0_1) := (blk_cell BK102.out 1).trans rfl
          have hfz35_0 := blk_frozen BK102.out 0
          have hfz35_1 := blk_frozen BK102.out 1
          go_wp2
          go_meet
          case rel => exact ⟨_, (true), (by first | rfl | (simp [*]; done)), H', ⟨by have := HJ1.out; have := HK2.out; first | omega | exact Nat.le_refl _⟩, ⟨by (with_reducible repeat (first | refine blk_drewN ?_ _ | refine blk_drew ?_ | refine blk_alloc ?_ _)); refine blk_far ?_ NB102_105.out _; (with_reducible repeat (first | refine blk_drewN ?_ _ | refine blk_drew ?_ | refine blk_alloc ?_ _)); refine blk_far ?_ NB102_105.out _; (with_reducible repeat (first | refine blk_drewN ?_ _ | refine blk_drew ?_ | refine blk_alloc ?_ _)); refine blk_far ?_ NB102_105.out _; (with_reducible repeat (first | refine blk_drewN ?_ _ | refine blk_drew ?_ | refine blk_alloc ?_ _)); refine blk_far ?_ NB102_105.out _; exact bx BK102.out⟩, ⟨by (with_reducible repeat (first | refine blk_drewN ?_ _ | refine blk_drew ?_ | refine blk_alloc ?_ _)); refine blk_far ?_ NB103_105.out _; (with_reducible repeat (first | refine blk_drewN ?_ _ | refine blk_drew ?_ | refine blk_alloc ?_ _)); refine blk_far ?_ NB103_105.out _; (with_reducible repeat (first | refine blk_drewN ?_ _ | refine blk_drew ?_ | refine blk_alloc ?_ _)); refine blk_far ?_ NB103_105.out _; (with_reducible repeat (first | refine blk_drewN ?_ _ | refine blk_drew ?_ | refine blk_alloc ?_ _)); refine blk_far ?_ NB103_105.out _; exact bx BK103.out⟩, ⟨by (with_reducible repeat (first | refine blk_drewN ?_ _ | refine blk_drew ?_ | refine blk_alloc ?_ _)); refine blk_put (cs := #[.int .i64 ((rd_T39 l0_1 x23_2).f0), .int .i64 ((rd_T39 l0_1 x23_2).f1), .int .i64 ((rd_T39 l0_1 x23_2).f2), .int .i64 0]) ?_ 3 _ rfl; (with_reducible repeat (first | refine blk_drewN ?_ _ | refine blk_drew ?_ | refine blk_alloc ?_ _)); refine blk_put (cs := #[.int .i64 ((rd_T39 l0_1 x23_2).f0), .int .i64 ((rd_T39 l0_1 x23_2).f1), .int .i64 0, .int .i64 0]) ?_ 2 _ rfl; (with_reducible repeat (first | refine blk_drewN ?_ _ | refine blk_drew ?_ | refine blk_alloc ?_ _)); refine blk_put (cs := #[.int .i64 ((rd_T39 l0_1 x23_2).f0), .int .i64 0, .int .i64 0, .int .i64 0]) ?_ 1 _ rfl; (with_reducible repeat (first | refine blk_drewN ?_ _ | refine blk_drew ?_ | refine blk_alloc ?_ _)); refine blk_put (cs := #[.int .i64 0, .int .i64 0, .int .i64 0, .int .i64 0]) ?_ 0 _ rfl; exact bx BK105.out⟩, ⟨lb⟩⟩
         ·
          rw [if_neg c30] at H
          have c30b0 : decide (a0_0 ≤ ((rd_T39 l0_1 x23_2).f0)) = false := decide_eq_false c30
          clear c30
          by_cases c36 : ((rd_T39 l0_1 x23_2).f1) < 0
          ·
           rw [if_pos c36] at H
           have c36b0 : decide (((rd_T39 l0_1 x23_2).f1) < 0) = true := decide_eq_true c36
           clear c36
           have H' := ak H
           clear H
           have hnb37 := NB105_102.out
           have hnc37 := NB102_105.out
           have hnb38 := NB105_103.out
           have hnc38 := NB103_105.out
           have hcz39_0 : w22.cell? ⟨gb105, 0, none⟩ = some (.int .i64 0) := (blk_cell BK105.out 0).trans rfl
           have hcz39_1 : w22.cell? ⟨gb105, 1, none⟩ = some (.int .i64 0) := (blk_cell BK105.out 1).trans rfl
           have hcz39_2 : w22.cell? ⟨gb105, 2, none⟩ = some (.int .i64 0) := (blk_cell BK105.out 2).trans rfl
           have hcz39_3 : w22.cell? ⟨gb105, 3, none⟩ = some (.int .i64 0) := (blk_cell BK105.out 3).trans rfl
           have hfz39_0 := blk_frozen BK105.out 0
           have hfz39_1 := blk_frozen BK105.out 1
           have hfz39_2 := blk_frozen BK105.out 2
           have hfz39_3 := blk_frozen BK105.out 3
           have hnb40 := NB102_103.out
           have hnc40 := NB103_102.out
           have hcz41_0 : w22.cell? ⟨gb102, 0, none⟩ = some (.int .i64 a0_0) := (blk_cell BK102.out 0).trans rfl
           have hcz41_1 : w22.cell? ⟨gb102, 1, none⟩ = some (.slice (some ad104) l0_1.length c0_1) := (blk_cell BK102.out 1).trans rfl
           have hfz41_0 := blk_frozen BK102.out 0
           have hfz41_1 := blk_frozen BK102.out 1
           go_wp2
           go_meet
           case rel => exact ⟨_, (true), (by first | rfl | (simp [*]; done)), H', ⟨by have := HJ1.out; have := HK2.out; first | omega | exact Nat.le_refl _⟩, ⟨by (with_reducible repeat (first | refine blk_drewN ?_ _ | refine blk_drew ?_ | refine blk_alloc ?_ _)); refine blk_far ?_ NB102_105.out _; (with_reducible repeat (first | refine blk_drewN ?_ _ | refine blk_drew ?_ | refine blk_alloc ?_ _)); refine blk_far ?_ NB102_105.out _; (with_reducible repeat (first | refine blk_drewN ?_ _ | refine blk_drew ?_ | refine blk_alloc ?_ _)); refine blk_far ?_ NB102_105.out _; (with_reducible repeat (first | refine blk_drewN ?_ _ | refine blk_drew ?_ | refine blk_alloc ?_ _)); refine blk_far ?_ NB102_105.out _; exact bx BK102.out⟩, ⟨by (with_reducible repeat (first | refine blk_drewN ?_ _ | refine blk_drew ?_ | refine blk_alloc ?_ _)); refine blk_far ?_ NB103_105.out _; (with_reducible repeat (first | refine blk_drewN ?_ _ | refine blk_drew ?_ | refine blk_alloc ?_ _)); refine blk_far ?_ NB103_105.out _; (with_reducible repeat (first | refine blk_drewN ?_ _ | refine blk_drew ?_ | refine blk_alloc ?_ _)); refine blk_far ?_ NB103_105.out _; (with_reducible repeat (first | refine blk_drewN ?_ _ | refine blk_drew ?_ | refine blk_alloc ?_ _)); refine blk_far ?_ NB103_105.out _; exact bx BK103.out⟩, ⟨by (with_reducible repeat (first | refine blk_drewN ?_ _ | refine blk_drew ?_ | refine blk_alloc ?_ _)); refine blk_put (cs := #[.int .i64 ((rd_T39 l0_1 x23_2).f0), .int .i64 ((rd_T39 l0_1 x23_2).f1), .int .i64 ((rd_T39 l0_1 x23_2).f2), .int .i64 0]) ?_ 3 _ rfl; (with_reducible repeat (first | refine blk_drewN ?_ _ | refine blk_drew ?_ | refine blk_alloc ?_ _)); refine blk_put (cs := #[.int .i64 ((rd_T39 l0_1 x23_2).f0), .int .i64 ((rd_T39 l0_1 x23_2).f1), .int .i64 0, .int .i64 0]) ?_ 2 _ rfl; (with_reducible repeat (first | refine blk_drewN ?_ _ | refine blk_drew ?_ | refine blk_alloc ?_ _)); refine blk_put (cs := #[.int .i64 ((rd_T39 l0_1 x23_2).f0), .int .i64 0, .int .i64 0, .int .i64 0]) ?_ 1 _ rfl; (with_reducible repeat (first | refine blk_drewN ?_ _ | refine blk_drew ?_ | refine blk_alloc ?_ _)); refine blk_put (cs := #[.int .i64 0, .int .i64 0, .int .i64 0, .int .i64 0]) ?_ 0 _ rfl; exact bx BK105.out⟩, ⟨lb⟩⟩
          ·
           rw [if_neg c36] at H
           have c36b0 : decide (((rd_T39 l0_1 x23_2).f1) < 0) = false := decide_eq_false c36
           clear c36
           have H' := ak H
           clear H
           have hnb42 := NB105_102.out
           have hnc42 := NB102_105.out
           have hnb43 := NB105_103.out
           have hnc43 := NB103_105.out
           have hcz44_0 : w22.cell? ⟨gb105, 0, none⟩ = some (.int .i64 0) := (blk_cell BK105.out 0).trans rfl
           have hcz44_1 : w22.cell? ⟨gb105, 1, none⟩ = some (.int .i64 0) := (blk_cell BK105.out 1).trans rfl
           have hcz44_2 : w22.cell? ⟨gb105, 2, none⟩ = some (.int .i64 0) := (blk_cell BK105.out 2).trans rfl
           have hcz44_3 : w22.cell? ⟨gb105, 3, none⟩ = some (.int .i64 0) := (blk_cell BK105.out 3).trans rfl
           have hfz44_0 := blk_frozen BK105.out 0
           have hfz44_1 := blk_frozen BK105.out 1
           have hfz44_2 := blk_frozen BK105.out 2
           have hfz44_3 := blk_frozen BK105.out 3
           have hnb45 := NB102_103.out
           have hnc45 := NB103_102.out
           have hcz46_0 : w22.cell? ⟨gb102, 0, none⟩ = some (.int .i64 a0_0) := (blk_cell BK102.out 0).trans rfl
           have hcz46_1 : w22.cell? ⟨gb102, 1, none⟩ = some (.slice (some ad104) l0_1.length c0_1) := (blk_cell BK102.out 1).trans rfl
           have hfz46_0 := blk_frozen BK102.out 0
           have hfz46_1 := blk_frozen BK102.out 1
           go_wp2
           go_meet
           case rel => exact ⟨_, (decide (((rd_T39 l0_1 x23_2).f1) ≥ a0_0)), (by first | rfl | (simp [*]; done)), H', ⟨by have := HJ1.out; have := HK2.out; first | omega | exact Nat.le_refl _⟩, ⟨by (with_reducible repeat (first | refine blk_drewN ?_ _ | refine blk_drew ?_ | refine blk_alloc ?_ _)); refine blk_far ?_ NB102_105.out _; (with_reducible repeat (first | refine blk_drewN ?_ _ | refine blk_drew ?_ | refine blk_alloc ?_ _)); refine blk_far ?_ NB102_105.out _; (with_reducible repeat (first | refine blk_drewN ?_ _ | refine blk_drew ?_ | refine blk_alloc ?_ _)); refine blk_far ?_ NB102_105.out _; (with_reducible repeat (first | refine blk_drewN ?_ _ | refine blk_drew ?_ | refine blk_alloc ?_ _)); refine blk_far ?_ NB102_105.out _; exact bx BK102.out⟩, ⟨by (with_reducible repeat (first | refine blk_drewN ?_ _ | refine blk_drew ?_ | refine blk_alloc ?_ _)); refine blk_far ?_ NB103_105.out _; (with_reducible repeat (first | refine blk_drewN ?_ _ | refine blk_drew ?_ | refine blk_alloc ?_ _)); refine blk_far ?_ NB103_105.out _; (with_reducible repeat (first | refine blk_drewN ?_ _ | refine blk_drew ?_ | refine blk_alloc ?_ _)); refine blk_far ?_ NB103_105.out _; (with_reducible repeat (first | refine blk_drewN ?_ _ | refine blk_drew ?_ | refine blk_alloc ?_ _)); refine blk_far ?_ NB103_105.out _; exact bx BK103.out⟩, ⟨by (with_reducible repeat (first | refine blk_drewN ?_ _ | refine blk_drew ?_ | refine blk_alloc ?_ _)); refine blk_put (cs := #[.int .i64 ((rd_T39 l0_1 x23_2).f0), .int .i64 ((rd_T39 l0_1 x23_2).f1), .int .i64 ((rd_T39 l0_1 x23_2).f2), .int .i64 0]) ?_ 3 _ rfl; (with_reducible repeat (first | refine blk_drewN ?_ _ | refine blk_drew ?_ | refine blk_alloc ?_ _)); refine blk_put (cs := #[.int .i64 ((rd_T39 l0_1 x23_2).f0), .int .i64 ((rd_T39 l0_1 x23_2).f1), .int .i64 0, .int .i64 0]) ?_ 2 _ rfl; (with_reducible repeat (first | refine blk_drewN ?_ _ | refine blk_drew ?_ | refine blk_alloc ?_ _)); refine blk_put (cs := #[.int .i64 ((rd_T39 l0_1 x23_2).f0), .int .i64 0, .int .i64 0, .int .i64 0]) ?_ 1 _ rfl; (with_reducible repeat (first | refine blk_drewN ?_ _ | refine blk_drew ?_ | refine blk_alloc ?_ _)); refine blk_put (cs := #[.int .i64 0, .int .i64 0, .int .i64 0, .int .i64 0]) ?_ 0 _ rfl; exact bx BK105.out⟩, ⟨lb⟩⟩
       case rest =>
        clear HC21
        try clear c1; try clear p1; try clear q1; try clear hx1; try clear c2; try clear p2; try clear c3; try clear c4; try clear c5; try clear c5b0; try clear c6; try clear c8; try clear c8b0; try clear c9; try clear p10; try clear q10; try clear hx10; try clear c11; try clear c13; try clear c14; try clear c16; try clear c18; try clear c18b0; try clear c19; try clear c19b0; try clear c20; try clear c20b0; try clear c23; try clear c24; try clear c26; try clear c26b0; try clear c27; try clear c28; try clear c29; try clear c30; try clear c30b0; try clear c31; try clear c32; try clear c34; try clear c36; try clear c36b0; try clear c37; try clear c38; try clear c40; try clear c42; try clear c43; try clear c45; try clear hcz10_0; try clear hcz10_1; try clear hcz12_0; try clear hcz12_1; try clear hcz15_0; try clear hcz15_1; try clear hcz17_0; try clear hcz17_1; try clear hcz25_0; try clear hcz25_1; try clear hcz25_2; try clear hcz25_3; try clear hcz29_0; try clear hcz29_1; try clear hcz29_2; try clear hcz29_3; try clear hcz33_0; try clear hcz33_1; try clear hcz33_2; try clear hcz33_3; try clear hcz35_0; try clear hcz35_1; try clear hcz39_0; try clear hcz39_1; try clear hcz39_2; try clear hcz39_3; try clear hcz41_0; try clear hcz41_1; try clear hcz44_0; try clear hcz44_1; try clear hcz44_2; try clear hcz44_3; try clear hcz46_0; try clear hcz46_1; try clear hcz7_0; try clear hcz7_1; try clear hfz10_0; try clear hfz10_1; try clear hfz12_0; try clear hfz12_1; try clear hfz15_0; try clear hfz15_1; try clear hfz17_0; try clear hfz17_1; try clear hfz25_0; try clear hfz25_1; try clear hfz25_2; try clear hfz25_3; try clear hfz29_0; try clear hfz29_1; try clear hfz29_2; try clear hfz29_3; try clear hfz33_0; try clear hfz33_1; try clear hfz33_2; try clear hfz33_3; try clear hfz35_0; try clear hfz35_1; try clear hfz39_0; try clear hfz39_1; try clear hfz39_2; try clear hfz39_3; try clear hfz41_0; try clear hfz41_1; try clear hfz44_0; try clear hfz44_1; try clear hfz44_2; try clear hfz44_3; try clear hfz46_0; try clear hfz46_1; try clear hfz7_0; try clear hfz7_1; try clear hx104_0; try clear hx104_1; try clear hx104_2; try clear hx104_3; try clear p104; try clear p2; try clear q104
        obtain ⟨kq, x28_20, rfl, HA, HJ20, BK102, BK103, BK105, HB⟩ := hcut
        cases kq with
        | zero => exact absurd HA.out (by simp [graph_Check.j2])
        | succ kj20 =>
         have H := HA.out
         clear HA
         simp only [graph_Check.j2] at H
         by_cases c47 : x28_20 = true
         ·
          subst c47
          have H1 : (some (30, x23_2)) = some (r1, r2) := by rw [if_pos rfl] at H; exact H
          clear H
          have H := H1
          clear H1
          simp only [Option.some.injEq, Prod.mk.injEq] at H
          obtain ⟨rfl, rfl⟩ := H
          have hnb48 := NB103_102.out
          have hnc48 := NB102_103.out
          have hnb49 := NB103_105.out
          have hnc49 := NB105_103.out
          have hcz50_0 : wc.cell? ⟨gb103, 0, none⟩ = some (.int .i64 x104000_2) := (blk_cell BK103.out 0).trans rfl
          have hcz50_1 : wc.cell? ⟨gb103, 1, none⟩ = some (.int .i64 x104001_2) := (blk_cell BK103.out 1).trans rfl
          have hfz50_0 := blk_frozen BK103.out 0
          have hfz50_1 := blk_frozen BK103.out 1
          go_wp2
          refine bodyPost_ret (results_cell_row rfl _ _ gb103 28 #[.int .i64 30, .int .i64 x23_2] (0, 0) _ rfl (by (with_reducible repeat (first | refine blk_drewN ?_ _ | refine blk_drew ?_ | refine blk_alloc ?_ _)); refine blk_put (cs := #[.int .i64 30, .int .i64 x104001_2]) ?_ 1 _ rfl; (with_reducible repeat (first | refine blk_drewN ?_ _ | refine blk_drew ?_ | refine blk_alloc ?_ _)); refine blk_put (cs := #[.int .i64 x104000_2, .int .i64 x104001_2]) ?_ 0 _ rfl; exact bx BK103.out) Try.underlying28 rfl (by kernel_rfl)) rfl ?_
          exact ⟨by first | rfl | (simp [errW_none, errW_some] <;> rfl) | (simp [*, errW_none, errW_some] <;> rfl), lb⟩
         ·
          replace c47 := Bool.eq_false_iff.mpr c47
          subst c47
          have H1 : ((graph_label.f ((rd_T39 l0_1 x23_2).f0) ((rd_T39 l0_1 x23_2).f1) ((rd_T39 l0_1 x23_2).f2) ((rd_T39 l0_1 x23_2).f3)).bind fun t106 => (if t106 = true then (graph_Check.l0 kj20 l0_1 (l0_1.length : Int) (wrap64 (x23_2 + 1)) a0_0 l0_1) else (some (31, x23_2)))) = some (r1, r2) := by rw [if_neg (show ¬ (false = true) by decide)] at H; exact H
          clear H
          have H := H1
          clear H1
          replace H := Option.bind_eq_some_iff.mp H
          obtain ⟨t106, A510, H⟩ := H
          replace H : (if t106 = true then (graph_Check.l0 kj20 l0_1 (l0_1.length : Int) (wrap64 (x23_2 + 1)) a0_0 l0_1) else (some (31, x23_2))) = some (r1, r2) := H
          have A51 := ak A510
          clear A510
          by_cases c52 : t106 = true
          ·
           subst c52
           have H1 : (graph_Check.l0 kj20 l0_1 (l0_1.length : Int) (wrap64 (x23_2 + 1)) a0_0 l0_1) = some (r1, r2) := by rw [if_pos rfl] at H; exact H
           clear H
           have H := H1
           clear H1
           have H' := ak H
           clear H
           have hnb53 := NB105_102.out
           have hnc53 := NB102_105.out
           have hnb54 := NB105_103.out
           have hnc54 := NB103_105.out
           have hcz55_0 : wc.cell? ⟨gb105, 0, none⟩ = some (.int .i64 ((rd_T39 l0_1 x23_2).f0)) := (blk_cell BK105.out 0).trans rfl
           have hcz55_1 : wc.cell? ⟨gb105, 1, none⟩ = some (.int .i64 ((rd_T39 l0_1 x23_2).f1)) := (blk_cell BK105.out 1).trans rfl
           have hcz55_2 : wc.cell? ⟨gb105, 2, none⟩ = some (.int .i64 ((rd_T39 l0_1 x23_2).f2)) := (blk_cell BK105.out 2).trans rfl
           have hcz55_3 : wc.cell? ⟨gb105, 3, none⟩ = some (.int .i64 ((rd_T39 l0_1 x23_2).f3)) := (blk_cell BK105.out 3).trans rfl
           have hfz55_0 := blk_frozen BK105.out 0
           have hfz55_1 := blk_frozen BK105.out 1
           have hfz55_2 := blk_frozen BK105.out 2
           have hfz55_3 := blk_frozen BK105.out 3
           go_wp2_with (first | ((with_reducible refine gate_callee (f := 30) rfl ?_); refine goesL_ (some 55) rfl rfl Try.func30 (by kernel_rfl) rfl #[.agg #[.int .i64 ((rd_T39 l0_1 x23_2).f0), .int .i64 ((rd_T39 l0_1 x23_2).f1), .int .i64 ((rd_T39 l0_1 x23_2).f2), .int .i64 ((rd_T39 l0_1 x23_2).f3)]] rfl (by (try simp only [List.map_toArray, List.map_cons, List.map_nil]); first | done | rfl | (simp only [List.length_drop, List.length_take]; rfl)) ?_; (with_reducible refine (graph_label.calls ((rd_T39 l0_1 x23_2).f0) ((rd_T39 l0_1 x23_2).f1) ((rd_T39 l0_1 x23_2).f2) ((rd_T39 l0_1 x23_2).f3) true _ A51.out).mono ?_); rintro e w56 ⟨rfl, hb⟩; refine ⟨_, rfl, ?_⟩; have n0_ := ak (blk_below (bx BK102.out) hb); have n1_ := ak (blk_below (bx BK103.out) hb); have n2_ := ak (blk_below (bx BK105.out) hb); have n3_ := ak (below_step lb hb); clear BK102; clear BK103; clear BK105; clear HB; have BK102 := n0_; have BK103 := n1_; have BK105 := n2_; have HB := n3_; clear n0_ n1_ n2_ n3_; (try clear hb); (try clear hb2); (try clear hk); (try clear hi)))
           go_roundg kj20
           case measure => have := HJ1.out; have := HK2.out; have := HJ20.out; omega
           case rel => exact ⟨(wrap64 (x23_2 + 1)), (x104000_2), (x104001_2), (by first | rfl | (simp [*]; done)), H', ⟨by have := HJ1.out; have := HK2.out; have := HJ20.out; omega⟩, ⟨bx BK102.out⟩, ⟨bx BK103.out⟩, ⟨lb⟩⟩
          ·
           replace c52 := Bool.eq_false_iff.mpr c52
           subst c52
           have H1 : (some (31, x23_2)) = some (r1, r2) := by rw [if_neg (show ¬ (false = true) by decide)] at H; exact H
           clear H
           have H := H1
           clear H1
           simp only [Option.some.injEq, Prod.mk.injEq] at H
           obtain ⟨rfl, rfl⟩ := H
           have hnb57 := NB105_102.out
           have hnc57 := NB102_105.out
           have hnb58 := NB105_103.out
           have hnc58 := NB103_105.out
           have hcz59_0 : wc.cell? ⟨gb105, 0, none⟩ = some (.int .i64 ((rd_T39 l0_1 x23_2).f0)) := (blk_cell BK105.out 0).trans rfl
           have hcz59_1 : wc.cell? ⟨gb105, 1, none⟩ = some (.int .i64 ((rd_T39 l0_1 x23_2).f1)) := (blk_cell BK105.out 1).trans rfl
           have hcz59_2 : wc.cell? ⟨gb105, 2, none⟩ = some (.int .i64 ((rd_T39 l0_1 x23_2).f2)) := (blk_cell BK105.out 2).trans rfl
           have hcz59_3 : wc.cell? ⟨gb105, 3, none⟩ = some (.int .i64 ((rd_T39 l0_1 x23_2).f3)) := (blk_cell BK105.out 3).trans rfl
           have hfz59_0 := blk_frozen BK105.out 0
           have hfz59_1 := blk_frozen BK105.out 1
           have hfz59_2 := blk_frozen BK105.out 2
           have hfz59_3 := blk_frozen BK105.out 3
           go_wp2_with (first | ((with_reducible refine gate_callee (f := 30) rfl ?_); refine goesL_ (some 55) rfl rfl Try.func30 (by kernel_rfl) rfl #[.agg #[.int .i64 ((rd_T39 l0_1 x23_2).f0), .int .i64 ((rd_T39 l0_1 x23_2).f1), .int .i64 ((rd_T39 l0_1 x23_2).f2), .int .i64 ((rd_T39 l0_1 x23_2).f3)]] rfl (by (try simp only [List.map_toArray, List.map_cons, List.map_nil]); first | done | rfl | (simp only [List.length_drop, List.length_take]; rfl)) ?_; (with_reducible refine (graph_label.calls ((rd_T39 l0_1 x23_2).f0) ((rd_T39 l0_1 x23_2).f1) ((rd_T39 l0_1 x23_2).f2) ((rd_T39 l0_1 x23_2).f3) false _ A51.out).mono ?_); rintro e w60 ⟨rfl, hb⟩; refine ⟨_, rfl, ?_⟩; have n0_ := ak (blk_below (bx BK102.out) hb); have n1_ := ak (blk_below (bx BK103.out) hb); have n2_ := ak (blk_below (bx BK105.out) hb); have n3_ := ak (below_step lb hb); clear BK102; clear BK103; clear BK105; clear HB; have BK102 := n0_; have BK103 := n1_; have BK105 := n2_; have HB := n3_; clear n0_ n1_ n2_ n3_; (try clear hb); (try clear hb2); (try clear hk); (try clear hi); have hnb61 := NB103_102.out; have hnc61 := NB102_103.out; have hcz62_0 : w60.cell? ⟨gb103, 0, none⟩ = some (.int .i64 x104000_2) := (blk_cell BK103.out 0).trans rfl; have hcz62_1 : w60.cell? ⟨gb103, 1, none⟩ = some (.int .i64 x104001_2) := (blk_cell BK103.out 1).trans rfl; have hfz62_0 := blk_frozen BK103.out 0; have hfz62_1 := blk_frozen BK103.out 1))
           refine bodyPost_ret (results_cell_row rfl _ _ gb103 28 #[.int .i64 31, .int .i64 x23_2] (0, 0) _ rfl (by (with_reducible repeat (first | refine blk_drewN ?_ _ | refine blk_drew ?_ | refine blk_alloc ?_ _)); refine blk_put (cs := #[.int .i64 31, .int .i64 x104001_2]) ?_ 1 _ rfl; (with_reducible repeat (first | refine blk_drewN ?_ _ | refine blk_drew ?_ | refine blk_alloc ?_ _)); refine blk_put (cs := #[.int .i64 x104000_2, .int .i64 x104001_2]) ?_ 0 _ rfl; exact bx BK103.out) Try.underlying28 rfl (by kernel_rfl)) rfl ?_
           exact ⟨by first | rfl | (simp [errW_none, errW_some] <;> rfl) | (simp [*, errW_none, errW_some] <;> rfl), lb⟩
      ·
       rw [if_neg c18] at H
       have c18b0 : decide (x23_2 < (l0_1.length : Int)) = false := decide_eq_false c18
       clear c18
       simp only [Option.some.injEq, Prod.mk.injEq] at H
       obtain ⟨rfl, rfl⟩ := H
       have hnb63 := NB103_102.out
       have hnc63 := NB102_103.out
       have hcz64_0 : wr.cell? ⟨gb103, 0, none⟩ = some (.int .i64 x104000_2) := (blk_cell BK103.out 0).trans rfl
       have hcz64_1 : wr.cell? ⟨gb103, 1, none⟩ = some (.int .i64 x104001_2) := (blk_cell BK103.out 1).trans rfl
       have hfz64_0 := blk_frozen BK103.out 0
       have hfz64_1 := blk_frozen BK103.out 1
       go_wp2
       refine bodyPost_ret (results_cell_row rfl _ _ gb103 28 #[.int .i64 0, .int .i64 0] (0, 0) _ rfl (by (with_reducible repeat (first | refine blk_drewN ?_ _ | refine blk_drew ?_ | refine blk_alloc ?_ _)); refine blk_put (cs := #[.int .i64 0, .int .i64 x104001_2]) ?_ 1 _ rfl; (with_reducible repeat (first | refine blk_drewN ?_ _ | refine blk_drew ?_ | refine blk_alloc ?_ _)); refine blk_put (cs := #[.int .i64 x104000_2, .int .i64 x104001_2]) ?_ 0 _ rfl; exact bx BK103.out) Try.underlying28 rfl (by kernel_rfl)) rfl ?_
       exact ⟨by first | rfl | (simp [errW_none, errW_some] <;> rfl) | (simp [*, errW_none, errW_some] <;> rfl), lb⟩

end Go.Proofs.Ytpmclhkednehhaa.Q
