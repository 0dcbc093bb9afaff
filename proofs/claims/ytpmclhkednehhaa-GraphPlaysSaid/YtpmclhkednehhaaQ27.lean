-- PRINTED by print.py (a twelfth state) out of the translation. Not trusted: Lean checks it.
import Derived.Test.YtpmclhkednehhaaQ0
import Derived.Test.YtpmclhkednehhaaQ1
namespace Go.Proofs.Ytpmclhkednehhaa.Q
open Go.RowKit Go.Proofs.YtpmclhkednehhaaW.PrintWords Go.Proofs.YtpmclhkednehhaaW.PrintLast Go.Proofs.YtpmclhkednehhaaW.PrintMore
attribute [local go_sem] max2_int min2_int max_two min_two max_three min_three max_four min_four   -- for this text's walks alone
set_option linter.unusedVariables false
set_option linter.unusedSimpArgs false

attribute [local go_sem high] eqA39
/-! ### compassref03_Same: function 28 -/
mutual
def compassref03_Same.j0 : Nat → Bool → Int → List (S39) → Int → List (S39) → Option (Bool)
  | 0, _, _, _, _, _ => none
  | k + 1, x19, x576000, x576001, x577000, x577001 => if x19 = true then (some false) else (compassref03_Same.l0 k 0 x576000 x576001 x577000 x577001)
def compassref03_Same.l0 : Nat → Int → Int → List (S39) → Int → List (S39) → Option (Bool)
  | 0, _, _, _, _, _ => none
  | k + 1, x5, x576000, x576001, x577000, x577001 => if x5 < (x576001.length : Int) then (if 0 ≤ x5 then (if x5 < (x577001.length : Int) then (if (!(((rd_T39 x576001 x5).f0) == ((rd_T39 x577001 x5).f0)) || (!(((rd_T39 x576001 x5).f1) == ((rd_T39 x577001 x5).f1)) || (!(((rd_T39 x576001 x5).f2) == ((rd_T39 x577001 x5).f2)) || (!(((rd_T39 x576001 x5).f3) == ((rd_T39 x577001 x5).f3)))))) = true then (some false) else (compassref03_Same.l0 k (wrap64 (x5 + 1)) x576000 x576001 x577000 x577001)) else (none)) else (none)) else (some true)
end
def compassref03_Same.f (k : Nat) (a0_0 : Int) (l0_1 : List (S39)) (a1_0 : Int) (l1_1 : List (S39)) : Option (Bool) := if a0_0 = a1_0 then (compassref03_Same.j0 k ((l0_1.length : Int) != (l1_1.length : Int)) a0_0 l0_1 a1_0 l1_1) else (compassref03_Same.j0 k true a0_0 l0_1 a1_0 l1_1)
theorem compassref03_Same.mono_l : ∀ k, (∀ y0 y1 y2 y3 y4, LeO (compassref03_Same.j0 k y0 y1 y2 y3 y4) (compassref03_Same.j0 (k + 1) y0 y1 y2 y3 y4)) ∧ (∀ y0 y1 y2 y3 y4, LeO (compassref03_Same.l0 k y0 y1 y2 y3 y4) (compassref03_Same.l0 (k + 1) y0 y1 y2 y3 y4))
  | 0 => ⟨fun _ _ _ _ _ r h => by simp [compassref03_Same.j0] at h, fun _ _ _ _ _ r h => by simp [compassref03_Same.l0] at h⟩
  | k + 1 => by
    obtain ⟨ih0, ih1⟩ := compassref03_Same.mono_l k
    refine ⟨?_, ?_⟩
    · intro y0 y1 y2 y3 y4
      unfold compassref03_Same.j0
      repeat' first
      | (with_reducible exact ih0 _ _ _ _ _)
      | (with_reducible exact ih1 _ _ _ _ _)
      | (with_reducible exact LeO.refl _)
      | (with_reducible exact LeO.none _)
      | (with_reducible refine LeO.ite ?_ ?_)
      | (with_reducible refine LeO.bind ?_ (fun _ => ?_))
      | exact ih0 _ _ _ _ _
      | exact ih1 _ _ _ _ _
      | exact LeO.none _
      | refine LeO.ite ?_ ?_
      | refine LeO.bind ?_ (fun _ => ?_)
    · intro y0 y1 y2 y3 y4
      unfold compassref03_Same.l0
      repeat' first
      | (with_reducible exact ih0 _ _ _ _ _)
      | (with_reducible exact ih1 _ _ _ _ _)
      | (with_reducible exact LeO.refl _)
      | (with_reducible exact LeO.none _)
      | (with_reducible refine LeO.ite ?_ ?_)
      | (with_reducible refine LeO.bind ?_ (fun _ => ?_))
      | exact ih0 _ _ _ _ _
      | exact ih1 _ _ _ _ _
      | exact LeO.none _
      | refine LeO.ite ?_ ?_
      | refine LeO.bind ?_ (fun _ => ?_)
theorem compassref03_Same.mono : ∀ a0 a1 a2 a3 k, LeO (compassref03_Same.f k a0 a1 a2 a3) (compassref03_Same.f (k + 1) a0 a1 a2 a3) := by
  intro a0 a1 a2 a3 k
  obtain ⟨ih0, ih1⟩ := compassref03_Same.mono_l k
  unfold compassref03_Same.f
  repeat' first
      | (with_reducible exact ih0 _ _ _ _ _)
      | (with_reducible exact ih1 _ _ _ _ _)
      | (with_reducible exact LeO.refl _)
      | (with_reducible exact LeO.none _)
      | (with_reducible refine LeO.ite ?_ ?_)
      | (with_reducible refine LeO.bind ?_ (fun _ => ?_))
      | exact ih0 _ _ _ _ _
      | exact ih1 _ _ _ _ _
      | exact LeO.none _
      | refine LeO.ite ?_ ?_
      | refine LeO.bind ?_ (fun _ => ?_)
set_option maxHeartbeats 8000000 in
set_option maxRecDepth 100000 in
theorem compassref03_Same.calls (k : Nat) (a0_0 : Int) (A0_1 : Option Addr) (c0_1 : Nat) (l0_1 : List (S39)) (a1_0 : Int) (A1_1 : Option Addr) (c1_1 : Nat) (l1_1 : List (S39)) (r : Bool) (w : World) (hr0_1 : Kd.C k39 w A0_1 l0_1.length l0_1) (hc0_1 : l0_1.length ≤ c0_1) (hr1_1 : Kd.C k39 w A1_1 l1_1.length l1_1) (hc1_1 : l1_1.length ≤ c1_1) (h : compassref03_Same.f k a0_0 l0_1 a1_0 l1_1 = some r) :
    Calls Try.prog 12 #[.agg #[.int .i64 a0_0, .slice A0_1 l0_1.length c0_1], .agg #[.int .i64 a1_0, .slice A1_1 l1_1.length c1_1]] w fun e w' => e = .returned (.bool r) ∧ Below w.heap.size w w' := by
 have hu24 := Try.underlying24
 have hu41 := Try.underlying39
 have HR0_1 := ak hr0_1
 have HC0_1 := ak hc0_1
 clear hr0_1 hc0_1
 have HR1_1 := ak hr1_1
 have HC1_1 := ak hc1_1
 clear hr1_1 hc1_1
 have HB := ak (Below.refl w.heap.size w)
 have H : (if a0_0 = a1_0 then (compassref03_Same.j0 k ((l0_1.length : Int) != (l1_1.length : Int)) a0_0 l0_1 a1_0 l1_1) else (compassref03_Same.j0 k true a0_0 l0_1 a1_0 l1_1)) = some r := h
 clear h
 have HC3 := ak H
 clear H
 go_enter Try.func12, Try.ntmps12
 go_upto_region 1 with (first | ((with_reducible refine gate_dst (N := 2) rfl ?_); (try (refine gate_guard (by rfl) ?_; dsimp only)); refine box_event ?hg (N := 2) ?hd (cs := #[.int .i64 a0_0, .slice A0_1 l0_1.length c0_1]) (t := 24) ?hr ?_; (case hd => rfl); (case hg => rfl); (case hr => first | (go_simp; done) | (go_simp; rfl)); intro gb575 hg w4 hbox hb; have n0_ := ak (below_step lb hb); have n1_ := ak (hbox); have n2_ := ak ((by rw [hg]; exact (below_size lb) : w.heap.size ≤ gb575)); have n3_ := ak ((by rw [hg]; exact (below_size lb) : w.heap.size ≤ gb575)); clear HB; have HB := n0_; have BK575 := n1_; have GW575 := n2_; have GE575 := n3_; clear n0_ n1_ n2_ n3_; clear hb hbox hg) | ((with_reducible refine gate_dst (N := 3) rfl ?_); (try (refine gate_guard (by rfl) ?_; dsimp only)); refine box_event ?hg (N := 3) ?hd (cs := #[.int .i64 a1_0, .slice A1_1 l1_1.length c1_1]) (t := 24) ?hr ?_; (case hd => rfl); (case hg => rfl); (case hr => first | (go_simp; done) | (go_simp; rfl)); intro gb576 hg w5 hbox hb; have n0_ := ak (blk_below (bx BK575.out) hb); have n1_ := ak (below_step lb hb); have n2_ := ak (hbox); have n3_ := ak ((by rw [hg]; exact (below_size lb) : w.heap.size ≤ gb576)); have n4_ := ak ((by rw [hg]; exact (below_size lb) : w.heap.size ≤ gb576)); have n5_ := ak ((by rw [hg]; exact Nat.ne_of_lt (blk_lt (g := gb575) (o := .cells #[.int .i64 a0_0, .slice A0_1 l0_1.length c0_1] 24 (0, 0)) (bx BK575.out)) : gb575 ≠ gb576)); have n6_ := ak ((by rw [hg]; exact Nat.ne_of_gt (blk_lt (g := gb575) (o := .cells #[.int .i64 a0_0, .slice A0_1 l0_1.length c0_1] 24 (0, 0)) (bx BK575.out)) : gb576 ≠ gb575)); clear BK575; clear HB; have BK575 := n0_; have HB := n1_; have BK576 := n2_; have GW576 := n3_; have GE576 := n4_; have NB575_576 := n5_; have NB576_575 := n6_; clear n0_ n1_ n2_ n3_ n4_ n5_ n6_; clear hb hbox hg))
 repeat (go_quiet (first | ((with_reducible refine gate_dst (N := 2) rfl ?_); (try (refine gate_guard (by rfl) ?_; dsimp only)); refine box_event ?hg (N := 2) ?hd (cs := #[.int .i64 a0_0, .slice A0_1 l0_1.length c0_1]) (t := 24) ?hr ?_; (case hd => rfl); (case hg => rfl); (case hr => first | (go_simp; done) | (go_simp; rfl)); intro gb575 hg w4 hbox hb; have n0_ := ak (below_step lb hb); have n1_ := ak (hbox); have n2_ := ak ((by rw [hg]; exact (below_size lb) : w.heap.size ≤ gb575)); have n3_ := ak ((by rw [hg]; exact (below_size lb) : w.heap.size ≤ gb575)); clear HB; have HB := n0_; have BK575 := n1_; have GW575 := n2_; have GE575 := n3_; clear n0_ n1_ n2_ n3_; clear hb hbox hg) | ((with_reducible refine gate_dst (N := 3) rfl ?_); (try (refine gate_guard (by rfl) ?_; dsimp only)); refine box_event ?hg (N := 3) ?hd (cs := #[.int .i64 a1_0, .slice A1_1 l1_1.length c1_1]) (t := 24) ?hr ?_; (case hd => rfl); (case hg => rfl); (case hr => first | (go_simp; done) | (go_simp; rfl)); intro gb576 hg w5 hbox hb; have n0_ := ak (blk_below (bx BK575.out) hb); have n1_ := ak (below_step lb hb); have n2_ := ak (hbox); have n3_ := ak ((by rw [hg]; exact (below_size lb) : w.heap.size ≤ gb576)); have n4_ := ak ((by rw [hg]; exact (below_size lb) : w.heap.size ≤ gb576)); have n5_ := ak ((by rw [hg]; exact Nat.ne_of_lt (blk_lt (g := gb575) (o := .cells #[.int .i64 a0_0, .slice A0_1 l0_1.length c0_1] 24 (0, 0)) (bx BK575.out)) : gb575 ≠ gb576)); have n6_ := ak ((by rw [hg]; exact Nat.ne_of_gt (blk_lt (g := gb575) (o := .cells #[.int .i64 a0_0, .slice A0_1 l0_1.length c0_1] 24 (0, 0)) (bx BK575.out)) : gb576 ≠ gb575)); clear BK575; clear HB; have BK575 := n0_; have HB := n1_; have BK576 := n2_; have GW576 := n3_; have GE576 := n4_; have NB575_576 := n5_; have NB576_575 := n6_; clear n0_ n1_ n2_ n3_ n4_ n5_ n6_; clear hb hbox hg)); go_upto_region 1 with (first | ((with_reducible refine gate_dst (N := 2) rfl ?_); (try (refine gate_guard (by rfl) ?_; dsimp only)); refine box_event ?hg (N := 2) ?hd (cs := #[.int .i64 a0_0, .slice A0_1 l0_1.length c0_1]) (t := 24) ?hr ?_; (case hd => rfl); (case hg => rfl); (case hr => first | (go_simp; done) | (go_simp; rfl)); intro gb575 hg w4 hbox hb; have n0_ := ak (below_step lb hb); have n1_ := ak (hbox); have n2_ := ak ((by rw [hg]; exact (below_size lb) : w.heap.size ≤ gb575)); have n3_ := ak ((by rw [hg]; exact (below_size lb) : w.heap.size ≤ gb575)); clear HB; have HB := n0_; have BK575 := n1_; have GW575 := n2_; have GE575 := n3_; clear n0_ n1_ n2_ n3_; clear hb hbox hg) | ((with_reducible refine gate_dst (N := 3) rfl ?_); (try (refine gate_guard (by rfl) ?_; dsimp only)); refine box_event ?hg (N := 3) ?hd (cs := #[.int .i64 a1_0, .slice A1_1 l1_1.length c1_1]) (t := 24) ?hr ?_; (case hd => rfl); (case hg => rfl); (case hr => first | (go_simp; done) | (go_simp; rfl)); intro gb576 hg w5 hbox hb; have n0_ := ak (blk_below (bx BK575.out) hb); have n1_ := ak (below_step lb hb); have n2_ := ak (hbox); have n3_ := ak ((by rw [hg]; exact (below_size lb) : w.heap.size ≤ gb576)); have n4_ := ak ((by rw [hg]; exact (below_size lb) : w.heap.size ≤ gb576)); have n5_ := ak ((by rw [hg]; exact Nat.ne_of_lt (blk_lt (g := gb575) (o := .cells #[.int .i64 a0_0, .slice A0_1 l0_1.length c0_1] 24 (0, 0)) (bx BK575.out)) : gb575 ≠ gb576)); have n6_ := ak ((by rw [hg]; exact Nat.ne_of_gt (blk_lt (g := gb575) (o := .cells #[.int .i64 a0_0, .slice A0_1 l0_1.length c0_1] 24 (0, 0)) (bx BK575.out)) : gb576 ≠ gb575)); clear BK575; clear HB; have BK575 := n0_; have HB := n1_; have BK576 := n2_; have GW576 := n3_; have GE576 := n4_; have NB575_576 := n5_; have NB576_575 := n6_; clear n0_ n1_ n2_ n3_ n4_ n5_ n6_; clear hb hbox hg)))
 (try simp only [Act.put, List.setIfInBounds_toArray, List.set_cons_zero, List.set_cons_succ])
 go_cut [19] (fun v19 wc => ∃ (kq : Nat) (x19_2 : Bool), v19 = .bool x19_2 ∧ Aside0 (compassref03_Same.j0 kq x19_2 a0_0 l0_1 a1_0 l1_1 = some r) ∧ Aside0 (kq ≤ k) ∧ Aside0 (wc.heap[gb575]? = some (.cells #[.int .i64 a0_0, (.slice A0_1 l0_1.length c0_1)] 24 (0, 0))) ∧ Aside0 (wc.heap[gb576]? = some (.cells #[.int .i64 a1_0, (.slice A1_1 l1_1.length c1_1)] 24 (0, 0))) ∧ Aside0 (Below w.heap.size w wc))
 case first =>
  have H := HC3.out
  clear HC3
  by_cases c6 : a0_0 = a1_0
  ·
   rw [if_pos c6] at H
   have c6b0 : (a0_0 == a1_0) = true := beq_iff_eq.mpr c6
   have c6b1 : (a0_0 != a1_0) = false := bne_eq_false_iff_eq.mpr c6
   clear c6
   (first | rw [c6b0] | (simp only [i64_w, i32_w]; rw [c6b0]) | skip)
   have H' := ak H
   clear H
   have hnb7 := NB575_576.out
   have hnc7 := NB576_575.out
   have hcz8_0 : w5.cell? ⟨gb575, 0, none⟩ = some (.int .i64 a0_0) := (blk_cell BK575.out 0).trans rfl
   have hcz8_1 : w5.cell? ⟨gb575, 1, none⟩ = some (.slice A0_1 l0_1.length c0_1) := (blk_cell BK575.out 1).trans rfl
   have hfz8_0 := blk_frozen BK575.out 0
   have hfz8_1 := blk_frozen BK575.out 1
   have hcz9_0 : w5.cell? ⟨gb576, 0, none⟩ = some (.int .i64 a1_0) := (blk_cell BK576.out 0).trans rfl
   have hcz9_1 : w5.cell? ⟨gb576, 1, none⟩ = some (.slice A1_1 l1_1.length c1_1) := (blk_cell BK576.out 1).trans rfl
   have hfz9_0 := blk_frozen BK576.out 0
   have hfz9_1 := blk_frozen BK576.out 1
   go_wp2
   repeat (go_quiet (fail); try go_wp2)
   go_meet
   case rel => exact ⟨_, (((l0_1.length : Int) != (l1_1.length : Int))), (by first | rfl | (simp [*]; done)), H', ⟨by first | omega | exact Nat.le_refl _⟩, ⟨bx BK575.out⟩, ⟨bx BK576.out⟩, ⟨lb⟩⟩
  ·
   rw [if_neg c6] at H
   have c6b0 : (a0_0 == a1_0) = false := beq_eq_false_iff_ne.mpr c6
   have c6b1 : (a0_0 != a1_0) = true := bne_iff_ne.mpr c6
   (first | rw [c6b0] | (simp only [i64_w, i32_w]; rw [c6b0]) | skip)
   have H' := ak H
   clear H
   have hnb10 := NB575_576.out
   have hnc10 := NB576_575.out
   have hcz11_0 : w5.cell? ⟨gb575, 0, none⟩ = some (.int .i64 a0_0) := (blk_cell BK575.out 0).trans rfl
   have hcz11_1 : w5.cell? ⟨gb575, 1, none⟩ = some (.slice A0_1 l0_1.length c0_1) := (blk_cell BK575.out 1).trans rfl
   have hfz11_0 := blk_frozen BK575.out 0
   have hfz11_1 := blk_frozen BK575.out 1
   have hcz12_0 : w5.cell? ⟨gb576, 0, none⟩ = some (.int .i64 a1_0) := (blk_cell BK576.out 0).trans rfl
   have hcz12_1 : w5.cell? ⟨gb576, 1, none⟩ = some (.slice A1_1 l1_1.length c1_1) := (blk_cell BK576.out 1).trans rfl
   have hfz12_0 := blk_frozen BK576.out 0
   have hfz12_1 := blk_frozen BK576.out 1
   go_wp2
   repeat (go_quiet (fail); try go_wp2)
   go_meet
   case rel => exact ⟨_, (true), (by first | rfl | (simp [*]; done)), H', ⟨by first | omega | exact Nat.le_refl _⟩, ⟨bx BK575.out⟩, ⟨bx BK576.out⟩, ⟨lb⟩⟩
 case rest =>
  clear HC3
  try clear c1; try clear c2; try clear p2; try clear c6; try clear c6b0; try clear c6b1; try clear c7; try clear c10; try clear hcz11_0; try clear hcz11_1; try clear hcz12_0; try clear hcz12_1; try clear hcz8_0; try clear hcz8_1; try clear hcz9_0; try clear hcz9_1; try clear hfz11_0; try clear hfz11_1; try clear hfz12_0; try clear hfz12_1; try clear hfz8_0; try clear hfz8_1; try clear hfz9_0; try clear hfz9_1
  obtain ⟨kq, x19_2, rfl, HA, HJ2, BK575, BK576, HB⟩ := hcut
  cases kq with
  | zero => exact absurd HA.out (by simp [compassref03_Same.j0])
  | succ kj2 =>
   have H := HA.out
   clear HA
   simp only [compassref03_Same.j0] at H
   by_cases c13 : x19_2 = true
   ·
    subst c13
    have H1 : (some false) = some r := by rw [if_pos rfl] at H; exact H
    clear H
    have H := H1
    clear H1
    obtain rfl := Option.some.inj H
    go_wp2
    repeat (go_quiet (fail); try go_wp2)
    go_ret
    exact ⟨by first | rfl | (simp [errW_none, errW_some] <;> rfl) | (simp [*, errW_none, errW_some] <;> rfl), lb⟩
   ·
    replace c13 := Bool.eq_false_iff.mpr c13
    subst c13
    have H1 : (compassref03_Same.l0 kj2 0 a0_0 l0_1 a1_0 l1_1) = some r := by rw [if_neg (show ¬ (false = true) by decide)] at H; exact H
    clear H
    have H := H1
    clear H1
    have H' := ak H
    clear H
    go_wp2
    repeat (go_quiet (fail); try go_wp2)
    go_loopg [5] kj2 (fun kq v5 w' => ∃ (x5_2 : Int), v5 = .int .i64 x5_2 ∧ Aside0 (compassref03_Same.l0 kq x5_2 a0_0 l0_1 a1_0 l1_1 = some r) ∧ Aside0 (kq ≤ kj2) ∧ Aside0 (w'.heap[gb575]? = some (.cells #[.int .i64 a0_0, (.slice A0_1 l0_1.length c0_1)] 24 (0, 0))) ∧ Aside0 (w'.heap[gb576]? = some (.cells #[.int .i64 a1_0, (.slice A1_1 l1_1.length c1_1)] 24 (0, 0))) ∧ Aside0 (Below w.heap.size w w'))
    case atStart => exact ⟨(0), (by first | rfl | (simp [*]; done)), H', ⟨Nat.le_refl _⟩, ⟨bx BK575.out⟩, ⟨bx BK576.out⟩, ⟨lb⟩⟩
    case round =>
     clear H'
     try clear c1; try clear c2; try clear p2; try clear c6; try clear c6b0; try clear c6b1; try clear c7; try clear c10; try clear c13; try clear hcz11_0; try clear hcz11_1; try clear hcz12_0; try clear hcz12_1; try clear hcz8_0; try clear hcz8_1; try clear hcz9_0; try clear hcz9_1; try clear hfz11_0; try clear hfz11_1; try clear hfz12_0; try clear hfz12_1; try clear hfz8_0; try clear hfz8_1; try clear hfz9_0; try clear hfz9_1; try clear p2
     obtain ⟨x5_2, rfl, HA, HK2, BK575, BK576, HB⟩ := hrel
     cases gk with
     | zero => exact absurd HA.out (by simp [compassref03_Same.l0])
     | succ k2 =>
      have H := HA.out
      clear HA
      simp only [compassref03_Same.l0] at H
      by_cases c14 : x5_2 < (l0_1.length : Int)
      ·
       rw [if_pos c14] at H
       have c14b0 : decide (x5_2 < (l0_1.length : Int)) = true := decide_eq_true c14
       clear c14
       by_cases c15 : 0 ≤ x5_2
       rotate_left
       ·
        rw [if_neg c15] at H
        exact absurd H (by simp)
       rw [if_pos c15] at H
       have c15b0 : decide (0 ≤ x5_2) = true := decide_eq_true c15
       clear c15
       by_cases c16 : x5_2 < (l1_1.length : Int)
       rotate_left
       ·
        rw [if_neg c16] at H
        exact absurd H (by simp)
       rw [if_pos c16] at H
       have c16b0 : decide (x5_2 < (l1_1.length : Int)) = true := decide_eq_true c16
       clear c16
       by_cases c17 : (!(((rd_T39 l0_1 x5_2).f0) == ((rd_T39 l1_1 x5_2).f0)) || (!(((rd_T39 l0_1 x5_2).f1) == ((rd_T39 l1_1 x5_2).f1)) || (!(((rd_T39 l0_1 x5_2).f2) == ((rd_T39 l1_1 x5_2).f2)) || (!(((rd_T39 l0_1 x5_2).f3) == ((rd_T39 l1_1 x5_2).f3)))))) = true
       ·
        rw [if_pos c17] at H
        have c17b0 : (!(((rd_T39 l0_1 x5_2).f0) == ((rd_T39 l1_1 x5_2).f0)) || (!(((rd_T39 l0_1 x5_2).f1) == ((rd_T39 l1_1 x5_2).f1)) || (!(((rd_T39 l0_1 x5_2).f2) == ((rd_T39 l1_1 x5_2).f2)) || (!(((rd_T39 l0_1 x5_2).f3) == ((rd_T39 l1_1 x5_2).f3)))))) = true := c17
        clear c17
        obtain rfl := Option.some.inj H
        have hnb18 := NB575_576.out
        have hnc18 := NB576_575.out
        have hcz19_0 : wr.cell? ⟨gb575, 0, none⟩ = some (.int .i64 a0_0) := (blk_cell BK575.out 0).trans rfl
        have hcz19_1 : wr.cell? ⟨gb575, 1, none⟩ = some (.slice A0_1 l0_1.length c0_1) := (blk_cell BK575.out 1).trans rfl
        have hfz19_0 := blk_frozen BK575.out 0
        have hfz19_1 := blk_frozen BK575.out 1
        have p577 : 0 ≤ (x5_2 : Int) := oda
        have q577 : x5_2 < (l0_1.length : Int) := oda
        obtain ⟨ad577, e577, hx577_0, hx577_1, hx577_2, hx577_3⟩ := at_T39 HR0_1.out x5_2 p577 q577
        cases e577
        (try replace hx577_0 := (HB.out.cell (World.block_lt_of_cell? w _ hx577_0)).trans hx577_0)
        (try replace hx577_1 := (HB.out.cell (World.block_lt_of_cell? w _ hx577_1)).trans hx577_1)
        (try replace hx577_2 := (HB.out.cell (World.block_lt_of_cell? w _ hx577_2)).trans hx577_2)
        (try replace hx577_3 := (HB.out.cell (World.block_lt_of_cell? w _ hx577_3)).trans hx577_3)
        replace p577 := eq_true p577
        replace q577 := eq_true q577
        have hcz20_0 : wr.cell? ⟨gb576, 0, none⟩ = some (.int .i64 a1_0) := (blk_cell BK576.out 0).trans rfl
        have hcz20_1 : wr.cell? ⟨gb576, 1, none⟩ = some (.slice A1_1 l1_1.length c1_1) := (blk_cell BK576.out 1).trans rfl
        have hfz20_0 := blk_frozen BK576.out 0
        have hfz20_1 := blk_frozen BK576.out 1
        have p578 : 0 ≤ (x5_2 : Int) := oda
        have q578 : x5_2 < (l1_1.length : Int) := oda
        obtain ⟨ad578, e578, hx578_0, hx578_1, hx578_2, hx578_3⟩ := at_T39 HR1_1.out x5_2 p578 q578
        cases e578
        (try replace hx578_0 := (HB.out.cell (World.block_lt_of_cell? w _ hx578_0)).trans hx578_0)
        (try replace hx578_1 := (HB.out.cell (World.block_lt_of_cell? w _ hx578_1)).trans hx578_1)
        (try replace hx578_2 := (HB.out.cell (World.block_lt_of_cell? w _ hx578_2)).trans hx578_2)
        (try replace hx578_3 := (HB.out.cell (World.block_lt_of_cell? w _ hx578_3)).trans hx578_3)
        replace p578 := eq_true p578
        replace q578 := eq_true q578
        go_wp2
        repeat (go_quiet (fail); try go_wp2)
        go_ret
        exact ⟨by first | rfl | (simp [errW_none, errW_some] <;> rfl) | (simp [*, errW_none, errW_some] <;> rfl), lb⟩
       ·
        rw [if_neg c17] at H
        have c17b0 : (!(((rd_T39 l0_1 x5_2).f0) == ((rd_T39 l1_1 x5_2).f0)) || (!(((rd_T39 l0_1 x5_2).f1) == ((rd_T39 l1_1 x5_2).f1)) || (!(((rd_T39 l0_1 x5_2).f2) == ((rd_T39 l1_1 x5_2).f2)) || (!(((rd_T39 l0_1 x5_2).f3) == ((rd_T39 l1_1 x5_2).f3)))))) = false := by simpa using c17
        clear c17
        have H' := ak H
        clear H
        have hnb21 := NB575_576.out
        have hnc21 := NB576_575.out
        have hcz22_0 : wr.cell? ⟨gb575, 0, none⟩ = some (.int .i64 a0_0) := (blk_cell BK575.out 0).trans rfl
        have hcz22_1 : wr.cell? ⟨gb575, 1, none⟩ = some (.slice A0_1 l0_1.length c0_1) := (blk_cell BK575.out 1).trans rfl
        have hfz22_0 := blk_frozen BK575.out 0
        have hfz22_1 := blk_frozen BK575.out 1
        have p577 : 0 ≤ (x5_2 : Int) := oda
        have q577 : x5_2 < (l0_1.length : Int) := oda
        obtain ⟨ad577, e577, hx577_0, hx577_1, hx577_2, hx577_3⟩ := at_T39 HR0_1.out x5_2 p577 q577
        cases e577
        (try replace hx577_0 := (HB.out.cell (World.block_lt_of_cell? w _ hx577_0)).trans hx577_0)
        (try replace hx577_1 := (HB.out.cell (World.block_lt_of_cell? w _ hx577_1)).trans hx577_1)
        (try replace hx577_2 := (HB.out.cell (World.block_lt_of_cell? w _ hx577_2)).trans hx577_2)
        (try replace hx577_3 := (HB.out.cell (World.block_lt_of_cell? w _ hx577_3)).trans hx577_3)
        replace p577 := eq_true p577
        replace q577 := eq_true q577
        have hcz23_0 : wr.cell? ⟨gb576, 0, none⟩ = some (.int .i64 a1_0) := (blk_cell BK576.out 0).trans rfl
        have hcz23_1 : wr.cell? ⟨gb576, 1, none⟩ = some (.slice A1_1 l1_1.length c1_1) := (blk_cell BK576.out 1).trans rfl
        have hfz23_0 := blk_frozen BK576.out 0
        have hfz23_1 := blk_frozen BK576.out 1
        have p578 : 0 ≤ (x5_2 : Int) := oda
        have q578 : x5_2 < (l1_1.length : Int) := oda
        obtain ⟨ad578, e578, hx578_0, hx578_1, hx578_2, hx578_3⟩ := at_T39 HR1_1.out x5_2 p578 q578
        cases e578
        (try replace hx578_0 := (HB.out.cell (World.block_lt_of_cell? w _ hx578_0)).trans hx578_0)
        (try replace hx578_1 := (HB.out.cell (World.block_lt_of_cell? w _ hx578_1)).trans hx578_1)
        (try replace hx578_2 := (HB.out.cell (World.block_lt_of_cell? w _ hx578_2)).trans hx578_2)
        (try replace hx578_3 := (HB.out.cell (World.block_lt_of_cell? w _ hx578_3)).trans hx578_3)
        replace p578 := eq_true p578
        replace q578 := eq_true q578
        go_wp2
        repeat (go_quiet (fail); try go_wp2)
        go_roundg k2
        case measure => have := HJ2.out; have := HK2.out; omega
        case rel => exact ⟨(wrap64 (x5_2 + 1)), (by first | rfl | (simp [*]; done)), H', ⟨by have := HJ2.out; have := HK2.out; omega⟩, ⟨bx BK575.out⟩, ⟨bx BK576.out⟩, ⟨lb⟩⟩
      ·
       rw [if_neg c14] at H
       have c14b0 : decide (x5_2 < (l0_1.length : Int)) = false := decide_eq_false c14
       clear c14
       obtain rfl := Option.some.inj H
       have hnb24 := NB575_576.out
       have hnc24 := NB576_575.out
       have hcz25_0 : wr.cell? ⟨gb575, 0, none⟩ = some (.int .i64 a0_0) := (blk_cell BK575.out 0).trans rfl
       have hcz25_1 : wr.cell? ⟨gb575, 1, none⟩ = some (.slice A0_1 l0_1.length c0_1) := (blk_cell BK575.out 1).trans rfl
       have hfz25_0 := blk_frozen BK575.out 0
       have hfz25_1 := blk_frozen BK575.out 1
       go_wp2
       repeat (go_quiet (fail); try go_wp2)
       go_ret
       exact ⟨by first | rfl | (simp [errW_none, errW_some] <;> rfl) | (simp [*, errW_none, errW_some] <;> rfl), lb⟩

-- NOT PRINTED: function 11 (compasslaw04_WalkKeeps)

end Go.Proofs.Ytpmclhkednehhaa.Q
