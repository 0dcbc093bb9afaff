-- PRINTED by print.py (a twelfth state) out of the translation. Not trusted: Lean checks it.
import Derived.Test.YtpmclhkednehhaaQ0
namespace Go.Proofs.Ytpmclhkednehhaa.Q
open Go.RowKit Go.Proofs.YtpmclhkednehhaaW.PrintWords Go.Proofs.YtpmclhkednehhaaW.PrintLast Go.Proofs.YtpmclhkednehhaaW.PrintMore
attribute [local go_sem] max2_int min2_int max_two min_two max_three min_three max_four min_four   -- for this text's walks alone
set_option linter.unusedVariables false
set_option linter.unusedSimpArgs false

/-! ### compassref03_Bad: function 42 -/
def compassref03_Bad.j0 : Nat → Bool → Int → Int → Int → Int → Option (Int)
  | 0, _, _, _, _, _ => none
  | k + 1, x24, x235000, x235001, x235002, x235003 => if x24 = true then (some 30) else (if x235002 < 0 then (some 31) else (if x235002 > 1048576 then (some 31) else (if x235003 < (-1048576) then (some 31) else (if x235003 > 1048576 then (some 31) else (some 0)))))
def compassref03_Bad.f (k : Nat) (a0 : Int) (a1_0 : Int) (a1_1 : Int) (a1_2 : Int) (a1_3 : Int) : Option (Int) := if a1_0 < 0 then (compassref03_Bad.j0 k true a1_0 a1_1 a1_2 a1_3) else (if a1_1 < 0 then (compassref03_Bad.j0 k true a1_0 a1_1 a1_2 a1_3) else (if a1_0 ≥ a0 then (compassref03_Bad.j0 k true a1_0 a1_1 a1_2 a1_3) else (compassref03_Bad.j0 k (decide (a1_1 ≥ a0)) a1_0 a1_1 a1_2 a1_3)))
theorem compassref03_Bad.mono_l : ∀ k, (∀ y0 y1 y2 y3 y4, LeO (compassref03_Bad.j0 k y0 y1 y2 y3 y4) (compassref03_Bad.j0 (k + 1) y0 y1 y2 y3 y4))
  | 0 => fun _ _ _ _ _ r h => by simp [compassref03_Bad.j0] at h
  | k + 1 => by
    have ih0 := compassref03_Bad.mono_l k
    · intro y0 y1 y2 y3 y4
      unfold compassref03_Bad.j0
      repeat' first
      | (with_reducible exact ih0 _ _ _ _ _)
      | (with_reducible exact LeO.refl _)
      | (with_reducible exact LeO.none _)
      | (with_reducible refine LeO.ite ?_ ?_)
      | (with_reducible refine LeO.bind ?_ (fun _ => ?_))
      | exact ih0 _ _ _ _ _
      | exact LeO.none _
      | refine LeO.ite ?_ ?_
      | refine LeO.bind ?_ (fun _ => ?_)
theorem compassref03_Bad.mono : ∀ a0 a1 a2 a3 a4 k, LeO (compassref03_Bad.f k a0 a1 a2 a3 a4) (compassref03_Bad.f (k + 1) a0 a1 a2 a3 a4) := by
  intro a0 a1 a2 a3 a4 k
  have ih0 := compassref03_Bad.mono_l k
  unfold compassref03_Bad.f
  repeat' first
      | (with_reducible exact ih0 _ _ _ _ _)
      | (with_reducible exact LeO.refl _)
      | (with_reducible exact LeO.none _)
      | (with_reducible refine LeO.ite ?_ ?_)
      | (with_reducible refine LeO.bind ?_ (fun _ => ?_))
      | exact ih0 _ _ _ _ _
      | exact LeO.none _
      | refine LeO.ite ?_ ?_
      | refine LeO.bind ?_ (fun _ => ?_)
set_option maxHeartbeats 8000000 in
set_option maxRecDepth 100000 in
theorem compassref03_Bad.calls (k : Nat) (a0 : Int) (a1_0 : Int) (a1_1 : Int) (a1_2 : Int) (a1_3 : Int) (r : Int) (w : World) (h : compassref03_Bad.f k a0 a1_0 a1_1 a1_2 a1_3 = some r) :
    Calls Try.prog 31 #[.int .i64 a0, .agg #[.int .i64 a1_0, .int .i64 a1_1, .int .i64 a1_2, .int .i64 a1_3]] w fun e w' => e = .returned (.int .i64 r) ∧ Below w.heap.size w w' := by
 have hu41 := Try.underlying39
 have HB := ak (Below.refl w.heap.size w)
 have H : (if a1_0 < 0 then (compassref03_Bad.j0 k true a1_0 a1_1 a1_2 a1_3) else (if a1_1 < 0 then (compassref03_Bad.j0 k true a1_0 a1_1 a1_2 a1_3) else (if a1_0 ≥ a0 then (compassref03_Bad.j0 k true a1_0 a1_1 a1_2 a1_3) else (compassref03_Bad.j0 k (decide (a1_1 ≥ a0)) a1_0 a1_1 a1_2 a1_3)))) = some r := h
 clear h
 have HC3 := ak H
 clear H
 go_enter Try.func31, Try.ntmps31
 go_upto_region 1 with (first | ((with_reducible refine gate_dst (N := 3) rfl ?_); refine box_event ?hg (N := 3) ?hd (cs := #[.int .i64 a1_0, .int .i64 a1_1, .int .i64 a1_2, .int .i64 a1_3]) (t := 39) ?hr ?_; (case hd => rfl); (case hg => rfl); (case hr => first | (go_simp; done) | (go_simp; rfl)); intro gb234 hg w4 hbox hb; have n0_ := ak (below_step lb hb); have n1_ := ak (hbox); have n2_ := ak ((by rw [hg]; exact (below_size lb) : w.heap.size ≤ gb234)); have n3_ := ak ((by rw [hg]; exact (below_size lb) : w.heap.size ≤ gb234)); clear HB; have HB := n0_; have BK234 := n1_; have GW234 := n2_; have GE234 := n3_; clear n0_ n1_ n2_ n3_; clear hb hbox hg))
 (try simp only [Act.put, List.setIfInBounds_toArray, List.set_cons_zero, List.set_cons_succ])
 go_cut [24] (fun v24 wc => ∃ (kq : Nat) (x24_2 : Bool), v24 = .bool x24_2 ∧ Aside0 (compassref03_Bad.j0 kq x24_2 a1_0 a1_1 a1_2 a1_3 = some r) ∧ Aside0 (kq ≤ k) ∧ Aside0 (wc.heap[gb234]? = some (.cells #[.int .i64 a1_0, .int .i64 a1_1, .int .i64 a1_2, .int .i64 a1_3] 39 (0, 0))) ∧ Aside0 (Below w.heap.size w wc))
 case first =>
  have H := HC3.out
  clear HC3
  by_cases c5 : a1_0 < 0
  ·
   rw [if_pos c5] at H
   have c5b0 : decide (a1_0 < 0) = true := decide_eq_true c5
   clear c5
   (first | rw [c5b0] | (simp only [i64_w, i32_w]; rw [c5b0]) | skip)
   have H' := ak H
   clear H
   have hcz6_0 : w4.cell? ⟨gb234, 0, none⟩ = some (.int .i64 a1_0) := (blk_cell BK234.out 0).trans rfl
   have hcz6_1 : w4.cell? ⟨gb234, 1, none⟩ = some (.int .i64 a1_1) := (blk_cell BK234.out 1).trans rfl
   have hcz6_2 : w4.cell? ⟨gb234, 2, none⟩ = some (.int .i64 a1_2) := (blk_cell BK234.out 2).trans rfl
   have hcz6_3 : w4.cell? ⟨gb234, 3, none⟩ = some (.int .i64 a1_3) := (blk_cell BK234.out 3).trans rfl
   have hfz6_0 := blk_frozen BK234.out 0
   have hfz6_1 := blk_frozen BK234.out 1
   have hfz6_2 := blk_frozen BK234.out 2
   have hfz6_3 := blk_frozen BK234.out 3
   go_wp2
   go_meet
   case rel => exact ⟨_, (true), (by first | rfl | (simp [*]; done)), H', ⟨by first | omega | exact Nat.le_refl _⟩, ⟨bx BK234.out⟩, ⟨lb⟩⟩
  ·
   rw [if_neg c5] at H
   have c5b0 : decide (a1_0 < 0) = false := decide_eq_false c5
   clear c5
   (first | rw [c5b0] | (simp only [i64_w, i32_w]; rw [c5b0]) | skip)
   by_cases c7 : a1_1 < 0
   ·
    rw [if_pos c7] at H
    have c7b0 : decide (a1_1 < 0) = true := decide_eq_true c7
    clear c7
    have H' := ak H
    clear H
    have hcz8_0 : w4.cell? ⟨gb234, 0, none⟩ = some (.int .i64 a1_0) := (blk_cell BK234.out 0).trans rfl
    have hcz8_1 : w4.cell? ⟨gb234, 1, none⟩ = some (.int .i64 a1_1) := (blk_cell BK234.out 1).trans rfl
    have hcz8_2 : w4.cell? ⟨gb234, 2, none⟩ = some (.int .i64 a1_2) := (blk_cell BK234.out 2).trans rfl
    have hcz8_3 : w4.cell? ⟨gb234, 3, none⟩ = some (.int .i64 a1_3) := (blk_cell BK234.out 3).trans rfl
    have hfz8_0 := blk_frozen BK234.out 0
    have hfz8_1 := blk_frozen BK234.out 1
    have hfz8_2 := blk_frozen BK234.out 2
    have hfz8_3 := blk_frozen BK234.out 3
    go_wp2
    go_meet
    case rel => exact ⟨_, (true), (by first | rfl | (simp [*]; done)), H', ⟨by first | omega | exact Nat.le_refl _⟩, ⟨bx BK234.out⟩, ⟨lb⟩⟩
   ·
    rw [if_neg c7] at H
    have c7b0 : decide (a1_1 < 0) = false := decide_eq_false c7
    clear c7
    by_cases c9 : a1_0 ≥ a0
    ·
     rw [if_pos c9] at H
     have c9b0 : decide (a0 ≤ a1_0) = true := decide_eq_true c9
     clear c9
     have H' := ak H
     clear H
     have hcz10_0 : w4.cell? ⟨gb234, 0, none⟩ = some (.int .i64 a1_0) := (blk_cell BK234.out 0).trans rfl
     have hcz10_1 : w4.cell? ⟨gb234, 1, none⟩ = some (.int .i64 a1_1) := (blk_cell BK234.out 1).trans rfl
     have hcz10_2 : w4.cell? ⟨gb234, 2, none⟩ = some (.int .i64 a1_2) := (blk_cell BK234.out 2).trans rfl
     have hcz10_3 : w4.cell? ⟨gb234, 3, none⟩ = some (.int .i64 a1_3) := (blk_cell BK234.out 3).trans rfl
     have hfz10_0 := blk_frozen BK234.out 0
     have hfz10_1 := blk_frozen BK234.out 1
     have hfz10_2 := blk_frozen BK234.out 2
     have hfz10_3 := blk_frozen BK234.out 3
     go_wp2
     go_meet
     case rel => exact ⟨_, (true), (by first | rfl | (simp [*]; done)), H', ⟨by first | omega | exact Nat.le_refl _⟩, ⟨bx BK234.out⟩, ⟨lb⟩⟩
    ·
     rw [if_neg c9] at H
     have c9b0 : decide (a0 ≤ a1_0) = false := decide_eq_false c9
     clear c9
     have H' := ak H
     clear H
     have hcz11_0 : w4.cell? ⟨gb234, 0, none⟩ = some (.int .i64 a1_0) := (blk_cell BK234.out 0).trans rfl
     have hcz11_1 : w4.cell? ⟨gb234, 1, none⟩ = some (.int .i64 a1_1) := (blk_cell BK234.out 1).trans rfl
     have hcz11_2 : w4.cell? ⟨gb234, 2, none⟩ = some (.int .i64 a1_2) := (blk_cell BK234.out 2).trans rfl
     have hcz11_3 : w4.cell? ⟨gb234, 3, none⟩ = some (.int .i64 a1_3) := (blk_cell BK234.out 3).trans rfl
     have hfz11_0 := blk_frozen BK234.out 0
     have hfz11_1 := blk_frozen BK234.out 1
     have hfz11_2 := blk_frozen BK234.out 2
     have hfz11_3 := blk_frozen BK234.out 3
     go_wp2
     go_meet
     case rel => exact ⟨_, (decide (a1_1 ≥ a0)), (by first | rfl | (simp [*]; done)), H', ⟨by first | omega | exact Nat.le_refl _⟩, ⟨bx BK234.out⟩, ⟨lb⟩⟩
 case rest =>
  clear HC3
  try clear p2; try clear c4; try clear c5; try clear c5b0; try clear c7; try clear c7b0; try clear c9; try clear c9b0; try clear hcz10_0; try clear hcz10_1; try clear hcz10_2; try clear hcz10_3; try clear hcz11_0; try clear hcz11_1; try clear hcz11_2; try clear hcz11_3; try clear hcz6_0; try clear hcz6_1; try clear hcz6_2; try clear hcz6_3; try clear hcz8_0; try clear hcz8_1; try clear hcz8_2; try clear hcz8_3; try clear hfz10_0; try clear hfz10_1; try clear hfz10_2; try clear hfz10_3; try clear hfz11_0; try clear hfz11_1; try clear hfz11_2; try clear hfz11_3; try clear hfz6_0; try clear hfz6_1; try clear hfz6_2; try clear hfz6_3; try clear hfz8_0; try clear hfz8_1; try clear hfz8_2; try clear hfz8_3
  obtain ⟨kq, x24_2, rfl, HA, HJ2, BK234, HB⟩ := hcut
  cases kq with
  | zero => exact absurd HA.out (by simp [compassref03_Bad.j0])
  | succ kj2 =>
   have H := HA.out
   clear HA
   simp only [compassref03_Bad.j0] at H
   by_cases c12 : x24_2 = true
   ·
    subst c12
    have H1 : (some 30) = some r := by rw [if_pos rfl] at H; exact H
    clear H
    have H := H1
    clear H1
    obtain rfl := Option.some.inj H
    go_wp2
    go_ret
    exact ⟨by first | rfl | (simp [errW_none, errW_some] <;> rfl) | (simp [*, errW_none, errW_some] <;> rfl), lb⟩
   ·
    replace c12 := Bool.eq_false_iff.mpr c12
    subst c12
    have H1 : (if a1_2 < 0 then (some 31) else (if a1_2 > 1048576 then (some 31) else (if a1_3 < (-1048576) then (some 31) else (if a1_3 > 1048576 then (some 31) else (some 0))))) = some r := by rw [if_neg (show ¬ (false = true) by decide)] at H; exact H
    clear H
    have H := H1
    clear H1
    by_cases c13 : a1_2 < 0
    ·
     rw [if_pos c13] at H
     have c13b0 : decide (a1_2 < 0) = true := decide_eq_true c13
     clear c13
     obtain rfl := Option.some.inj H
     have hcz14_0 : wc.cell? ⟨gb234, 0, none⟩ = some (.int .i64 a1_0) := (blk_cell BK234.out 0).trans rfl
     have hcz14_1 : wc.cell? ⟨gb234, 1, none⟩ = some (.int .i64 a1_1) := (blk_cell BK234.out 1).trans rfl
     have hcz14_2 : wc.cell? ⟨gb234, 2, none⟩ = some (.int .i64 a1_2) := (blk_cell BK234.out 2).trans rfl
     have hcz14_3 : wc.cell? ⟨gb234, 3, none⟩ = some (.int .i64 a1_3) := (blk_cell BK234.out 3).trans rfl
     have hfz14_0 := blk_frozen BK234.out 0
     have hfz14_1 := blk_frozen BK234.out 1
     have hfz14_2 := blk_frozen BK234.out 2
     have hfz14_3 := blk_frozen BK234.out 3
     go_wp2
     go_ret
     exact ⟨by first | rfl | (simp [errW_none, errW_some] <;> rfl) | (simp [*, errW_none, errW_some] <;> rfl), lb⟩
    ·
     rw [if_neg c13] at H
     have c13b0 : decide (a1_2 < 0) = false := decide_eq_false c13
     clear c13
     by_cases c15 : a1_2 > 1048576
     ·
      rw [if_pos c15] at H
      have c15b0 : decide (1048576 < a1_2) = true := decide_eq_true c15
      clear c15
      obtain rfl := Option.some.inj H
      have hcz16_0 : wc.cell? ⟨gb234, 0, none⟩ = some (.int .i64 a1_0) := (blk_cell BK234.out 0).trans rfl
      have hcz16_1 : wc.cell? ⟨gb234, 1, none⟩ = some (.int .i64 a1_1) := (blk_cell BK234.out 1).trans rfl
      have hcz16_2 : wc.cell? ⟨gb234, 2, none⟩ = some (.int .i64 a1_2) := (blk_cell BK234.out 2).trans rfl
      have hcz16_3 : wc.cell? ⟨gb234, 3, none⟩ = some (.int .i64 a1_3) := (blk_cell BK234.out 3).trans rfl
      have hfz16_0 := blk_frozen BK234.out 0
      have hfz16_1 := blk_frozen BK234.out 1
      have hfz16_2 := blk_frozen BK234.out 2
      have hfz16_3 := blk_frozen BK234.out 3
      go_wp2
      go_ret
      exact ⟨by first | rfl | (simp [errW_none, errW_some] <;> rfl) | (simp [*, errW_none, errW_some] <;> rfl), lb⟩
     ·
      rw [if_neg c15] at H
      have c15b0 : decide (1048576 < a1_2) = false := decide_eq_false c15
      clear c15
      by_cases c17 : a1_3 < (-1048576)
      ·
       rw [if_pos c17] at H
       have c17b0 : decide (a1_3 < (-1048576)) = true := decide_eq_true c17
       clear c17
       obtain rfl := Option.some.inj H
       have hcz18_0 : wc.cell? ⟨gb234, 0, none⟩ = some (.int .i64 a1_0) := (blk_cell BK234.out 0).trans rfl
       have hcz18_1 : wc.cell? ⟨gb234, 1, none⟩ = some (.int .i64 a1_1) := (blk_cell BK234.out 1).trans rfl
       have hcz18_2 : wc.cell? ⟨gb234, 2, none⟩ = some (.int .i64 a1_2) := (blk_cell BK234.out 2).trans rfl
       have hcz18_3 : wc.cell? ⟨gb234, 3, none⟩ = some (.int .i64 a1_3) := (blk_cell BK234.out 3).trans rfl
       have hfz18_0 := blk_frozen BK234.out 0
       have hfz18_1 := blk_frozen BK234.out 1
       have hfz18_2 := blk_frozen BK234.out 2
       have hfz18_3 := blk_frozen BK234.out 3
       go_wp2
       go_ret
       exact ⟨by first | rfl | (simp [errW_none, errW_some] <;> rfl) | (simp [*, errW_none, errW_some] <;> rfl), lb⟩
      ·
       rw [if_neg c17] at H
       have c17b0 : decide (a1_3 < (-1048576)) = false := decide_eq_false c17
       clear c17
       by_cases c19 : a1_3 > 1048576
       ·
        rw [if_pos c19] at H
        have c19b0 : decide (1048576 < a1_3) = true := decide_eq_true c19
        clear c19
        obtain rfl := Option.some.inj H
        have hcz20_0 : wc.cell? ⟨gb234, 0, none⟩ = some (.int .i64 a1_0) := (blk_cell BK234.out 0).trans rfl
        have hcz20_1 : wc.cell? ⟨gb234, 1, none⟩ = some (.int .i64 a1_1) := (blk_cell BK234.out 1).trans rfl
        have hcz20_2 : wc.cell? ⟨gb234, 2, none⟩ = some (.int .i64 a1_2) := (blk_cell BK234.out 2).trans rfl
        have hcz20_3 : wc.cell? ⟨gb234, 3, none⟩ = some (.int .i64 a1_3) := (blk_cell BK234.out 3).trans rfl
        have hfz20_0 := blk_frozen BK234.out 0
        have hfz20_1 := blk_frozen BK234.out 1
        have hfz20_2 := blk_frozen BK234.out 2
        have hfz20_3 := blk_frozen BK234.out 3
        go_wp2
        go_ret
        exact ⟨by first | rfl | (simp [errW_none, errW_some] <;> rfl) | (simp [*, errW_none, errW_some] <;> rfl), lb⟩
       ·
        rw [if_neg c19] at H
        have c19b0 : decide (1048576 < a1_3) = false := decide_eq_false c19
        clear c19
        obtain rfl := Option.some.inj H
        have hcz21_0 : wc.cell? ⟨gb234, 0, none⟩ = some (.int .i64 a1_0) := (blk_cell BK234.out 0).trans rfl
        have hcz21_1 : wc.cell? ⟨gb234, 1, none⟩ = some (.int .i64 a1_1) := (blk_cell BK234.out 1).trans rfl
        have hcz21_2 : wc.cell? ⟨gb234, 2, none⟩ = some (.int .i64 a1_2) := (blk_cell BK234.out 2).trans rfl
        have hcz21_3 : wc.cell? ⟨gb234, 3, none⟩ = some (.int .i64 a1_3) := (blk_cell BK234.out 3).trans rfl
        have hfz21_0 := blk_frozen BK234.out 0
        have hfz21_1 := blk_frozen BK234.out 1
        have hfz21_2 := blk_frozen BK234.out 2
        have hfz21_3 := blk_frozen BK234.out 3
        go_wp2
        go_ret
        exact ⟨by first | rfl | (simp [errW_none, errW_some] <;> rfl) | (simp [*, errW_none, errW_some] <;> rfl), lb⟩

end Go.Proofs.Ytpmclhkednehhaa.Q
