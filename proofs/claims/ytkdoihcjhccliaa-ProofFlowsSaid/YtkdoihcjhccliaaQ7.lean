-- PRINTED by print.py (a twelfth state) out of the translation. Not trusted: Lean checks it.
import Derived.Test.YtkdoihcjhccliaaQ0
import Derived.Test.YtkdoihcjhccliaaQ3
namespace Go.Proofs.Ytkdoihcjhccliaa.Q
open Go.RowKit Go.Proofs.YtkdoihcjhccliaaW.PrintWords Go.Proofs.YtkdoihcjhccliaaW.PrintLast Go.Proofs.YtkdoihcjhccliaaW.PrintMore
attribute [local go_sem] max2_int min2_int max_two min_two max_three min_three max_four min_four   -- for this text's walks alone
set_option linter.unusedVariables false
set_option linter.unusedSimpArgs false

/-! ### proof_across: function 53 -/
def proof_across.l0 : Nat → List Bool → Int → List (S98) → Int → Int → Option (Int × Int)
  | 0, _, _, _, _, _ => none
  | k + 1, x1, x5, x15, x16, x17 => if x17 < x16 then (if 0 ≤ x17 then (if x17 < (x15.length : Int) then (if 0 ≤ ((rd_T98 x15 x17).f0) then (if ((rd_T98 x15 x17).f0) < (x1.length : Int) then (if rdOf false x1 ((rd_T98 x15 x17).f0) = true then (if 0 ≤ ((rd_T98 x15 x17).f1) then (if ((rd_T98 x15 x17).f1) < (x1.length : Int) then (if (rdOf false x1 ((rd_T98 x15 x17).f1) = true) then (proof_across.l0 k x1 x5 x15 x16 (wrap64 (x17 + 1))) else (proof_across.l0 k x1 (wrap64 (x5 + ((rd_T98 x15 x17).f2))) x15 x16 (wrap64 (x17 + 1)))) else (none)) else (none)) else (proof_across.l0 k x1 x5 x15 x16 (wrap64 (x17 + 1)))) else (none)) else (none)) else (none)) else (none)) else (some (0, x5))
def proof_across.f (k : Nat) (a0_0 : Int) (l0_1 : List (S98)) (l1 : List Bool) : Option (Int × Int) := if (l1.length : Int) = a0_0 then (proof_across.l0 k l1 0 l0_1 (l0_1.length : Int) 0) else (some (221, 0))
theorem proof_across.mono_l : ∀ k, (∀ y0 y1 y2 y3 y4, LeO (proof_across.l0 k y0 y1 y2 y3 y4) (proof_across.l0 (k + 1) y0 y1 y2 y3 y4))
  | 0 => fun _ _ _ _ _ r h => by simp [proof_across.l0] at h
  | k + 1 => by
    have ih0 := proof_across.mono_l k
    · intro y0 y1 y2 y3 y4
      unfold proof_across.l0
      repeat' first
      | (with_reducible exact ih0 _ _ _ _ _)
      | (with_reducible exact LeO.refl _)
      | (with_reducible exact LeO.none _)
      | (with_reducible refine LeO.ite ?_ ?_)
      | (with_reducible refine LeO.bind ?_ (fun _ => ?_))
      | exact ih0 _ _ _ _ _
      | exact LeO.none _
      | refine LeO.ite ?_ ?_
      | refine LeO.bind ?_ (fun _ => ?_)
theorem proof_across.mono : ∀ a0 a1 a2 k, LeO (proof_across.f k a0 a1 a2) (proof_across.f (k + 1) a0 a1 a2) := by
  intro a0 a1 a2 k
  have ih0 := proof_across.mono_l k
  unfold proof_across.f
  repeat' first
      | (with_reducible exact ih0 _ _ _ _ _)
      | (with_reducible exact LeO.refl _)
      | (with_reducible exact LeO.none _)
      | (with_reducible refine LeO.ite ?_ ?_)
      | (with_reducible refine LeO.bind ?_ (fun _ => ?_))
      | exact ih0 _ _ _ _ _
      | exact LeO.none _
      | refine LeO.ite ?_ ?_
      | refine LeO.bind ?_ (fun _ => ?_)
set_option maxHeartbeats 8000000 in
set_option maxRecDepth 100000 in
theorem proof_across.calls (k : Nat) (a0_0 : Int) (A0_1 : Option Addr) (c0_1 : Nat) (l0_1 : List (S98)) (A1 : Option Addr) (c1 : Nat) (l1 : List Bool) (r1 : Int) (r2 : Int) (w : World) (hr0_1 : Kd.C k98 w A0_1 l0_1.length l0_1) (hc0_1 : l0_1.length ≤ c0_1) (hr1 : Kd.C Kd.bool w A1 l1.length l1) (hc1 : l1.length ≤ c1) (h : proof_across.f k a0_0 l0_1 l1 = some (r1, r2)) :
    Calls Try.prog 53 #[.agg #[.int .i64 a0_0, .slice A0_1 l0_1.length c0_1], .slice A1 l1.length c1] w fun e w' => Gave r1 (e = .returned (.int .i64 r2) ∧ Below w.heap.size w w') (e = gave r1 ∧ Below w.heap.size w w') := by
 have hu24 := Try.underlying24
 have hu98 := Try.underlying98
 have HR0_1 := ak hr0_1
 have HC0_1 := ak hc0_1
 clear hr0_1 hc0_1
 have HR1 := ak hr1
 have HC1 := ak hc1
 clear hr1 hc1
 have HB := ak (Below.refl w.heap.size w)
 have H : (if (l1.length : Int) = a0_0 then (proof_across.l0 k l1 0 l0_1 (l0_1.length : Int) 0) else (some (221, 0))) = some (r1, r2) := h
 clear h
 by_cases c3 : (l1.length : Int) = a0_0
 ·
  rw [if_pos c3] at H
  have c3b0 : ((l1.length : Int) == a0_0) = true := beq_iff_eq.mpr c3
  have c3b1 : ((l1.length : Int) != a0_0) = false := bne_eq_false_iff_eq.mpr c3
  clear c3
  have A4 := ak (show proof_need.f true 221 = some () from rfl)
  have H' := ak H
  clear H
  go_enter Try.func53, Try.ntmps53
  go_wp2_with (first | ((with_reducible refine gate_dst (N := 2) rfl ?_); refine box_event ?hg (N := 2) ?hd (cs := #[.int .i64 a0_0, .slice A0_1 l0_1.length c0_1]) (t := 24) ?hr ?_; (case hd => rfl); (case hg => rfl); (case hr => first | (go_simp; done) | (go_simp; rfl)); intro gb126 hg w5 hbox hb; have n0_ := ak (below_step lb hb); have n1_ := ak (hbox); have n2_ := ak ((by rw [hg]; exact (below_size lb) : w.heap.size ≤ gb126)); have n3_ := ak ((by rw [hg]; exact (below_size lb) : w.heap.size ≤ gb126)); clear HB; have HB := n0_; have BK126 := n1_; have GW126 := n2_; have GE126 := n3_; clear n0_ n1_ n2_ n3_; clear hb hbox hg; have hcz6_0 : w5.cell? ⟨gb126, 0, none⟩ = some (.int .i64 a0_0) := (blk_cell BK126.out 0).trans rfl; have hcz6_1 : w5.cell? ⟨gb126, 1, none⟩ = some (.slice A0_1 l0_1.length c0_1) := (blk_cell BK126.out 1).trans rfl; have hfz6_0 := blk_frozen BK126.out 0; have hfz6_1 := blk_frozen BK126.out 1) | ((with_reducible refine gate_callee (f := 51) rfl ?_); refine goesL_ (some 13) rfl rfl Try.func51 (by kernel_rfl) rfl #[.bool true, .int .i64 221] rfl (by (try simp only [List.map_toArray, List.map_cons, List.map_nil]); first | done | rfl | (simp only [List.length_drop, List.length_take]; rfl)) ?_; (with_reducible refine (proof_need.calls true 221  _ A4.out).mono ?_); rintro e w' ⟨rfl, ⟨nd, rfl⟩⟩; refine ⟨_, rfl, ?_⟩))
  go_loopg [5, 17] k (fun kq v5 v17 w' => ∃ (x5_1 : Int) (x17_1 : Int), v5 = .int .i64 x5_1 ∧ v17 = .int .i64 x17_1 ∧ Aside0 (proof_across.l0 kq l1 x5_1 l0_1 (l0_1.length : Int) x17_1 = some (r1, r2)) ∧ Aside0 (kq ≤ k) ∧ Aside0 (w'.heap[gb126]? = some (.cells #[.int .i64 a0_0, (.slice A0_1 l0_1.length c0_1)] 24 (0, 0))) ∧ Aside0 (Below w.heap.size w w'))
  case atStart => exact ⟨(0), (0), (by first | rfl | (simp [*]; done)), (by first | rfl | (simp [*]; done)), H', ⟨Nat.le_refl _⟩, ⟨bx BK126.out⟩, ⟨lb⟩⟩
  case round =>
   clear H'
   try clear c1; try clear p2; try clear c3; try clear c3b0; try clear c3b1; try clear c5; try clear hcz6_0; try clear hcz6_1; try clear hfz6_0; try clear hfz6_1
   obtain ⟨x5_1, x17_1, rfl, rfl, HA, HK1, BK126, HB⟩ := hrel
   cases gk with
   | zero => exact absurd HA.out (by simp [proof_across.l0])
   | succ k1 =>
    have H := HA.out
    clear HA
    simp only [proof_across.l0] at H
    by_cases c7 : x17_1 < (l0_1.length : Int)
    ·
     rw [if_pos c7] at H
     have c7b0 : decide (x17_1 < (l0_1.length : Int)) = true := decide_eq_true c7
     clear c7
     by_cases c8 : 0 ≤ x17_1
     rotate_left
     ·
      rw [if_neg c8] at H
      exact absurd H (by simp)
     rw [if_pos c8] at H
     have c8b0 : decide (0 ≤ x17_1) = true := decide_eq_true c8
     clear c8
     by_cases c9 : x17_1 < (l0_1.length : Int)
     rotate_left
     ·
      rw [if_neg c9] at H
      exact absurd H (by simp)
     rw [if_pos c9] at H
     have c9b0 : decide (x17_1 < (l0_1.length : Int)) = true := decide_eq_true c9
     clear c9
     by_cases c10 : 0 ≤ ((rd_T98 l0_1 x17_1).f0)
     rotate_left
     ·
      rw [if_neg c10] at H
      exact absurd H (by simp)
     rw [if_pos c10] at H
     have c10b0 : decide (0 ≤ ((rd_T98 l0_1 x17_1).f0)) = true := decide_eq_true c10
     clear c10
     by_cases c11 : ((rd_T98 l0_1 x17_1).f0) < (l1.length : Int)
     rotate_left
     ·
      rw [if_neg c11] at H
      exact absurd H (by simp)
     rw [if_pos c11] at H
     have c11b0 : decide (((rd_T98 l0_1 x17_1).f0) < (l1.length : Int)) = true := decide_eq_true c11
     clear c11
     obtain ⟨bq12, hbq12⟩ : ∃ b_ : Bool, b_ = (rdOf false l1 ((rd_T98 l0_1 x17_1).f0)) := ⟨_, rfl⟩
     replace H : (if bq12 = true then (if 0 ≤ ((rd_T98 l0_1 x17_1).f1) then (if ((rd_T98 l0_1 x17_1).f1) < (l1.length : Int) then (if (rdOf false l1 ((rd_T98 l0_1 x17_1).f1) = true) then (proof_across.l0 k1 l1 x5_1 l0_1 (l0_1.length : Int) (wrap64 (x17_1 + 1))) else (proof_across.l0 k1 l1 (wrap64 (x5_1 + ((rd_T98 l0_1 x17_1).f2))) l0_1 (l0_1.length : Int) (wrap64 (x17_1 + 1)))) else (none)) else (none)) else (proof_across.l0 k1 l1 x5_1 l0_1 (l0_1.length : Int) (wrap64 (x17_1 + 1)))) = some (r1, r2) := by rw [← hbq12] at H; exact H
     have Nbq12 := ak hbq12
     clear hbq12
     by_cases c13 : bq12 = true
     ·
      subst c13
      have H1 : (if 0 ≤ ((rd_T98 l0_1 x17_1).f1) then (if ((rd_T98 l0_1 x17_1).f1) < (l1.length : Int) then (if (rdOf false l1 ((rd_T98 l0_1 x17_1).f1) = true) then (proof_across.l0 k1 l1 x5_1 l0_1 (l0_1.length : Int) (wrap64 (x17_1 + 1))) else (proof_across.l0 k1 l1 (wrap64 (x5_1 + ((rd_T98 l0_1 x17_1).f2))) l0_1 (l0_1.length : Int) (wrap64 (x17_1 + 1)))) else (none)) else (none)) = some (r1, r2) := by rw [if_pos rfl] at H; exact H
      clear H
      have H := H1
      clear H1
      by_cases c14 : 0 ≤ ((rd_T98 l0_1 x17_1).f1)
      rotate_left
      ·
       rw [if_neg c14] at H
       exact absurd H (by simp)
      rw [if_pos c14] at H
      have c14b0 : decide (0 ≤ ((rd_T98 l0_1 x17_1).f1)) = true := decide_eq_true c14
      clear c14
      by_cases c15 : ((rd_T98 l0_1 x17_1).f1) < (l1.length : Int)
      rotate_left
      ·
       rw [if_neg c15] at H
       exact absurd H (by simp)
      rw [if_pos c15] at H
      have c15b0 : decide (((rd_T98 l0_1 x17_1).f1) < (l1.length : Int)) = true := decide_eq_true c15
      clear c15
      obtain ⟨bq16, hbq16⟩ : ∃ b_ : Bool, b_ = (rdOf false l1 ((rd_T98 l0_1 x17_1).f1)) := ⟨_, rfl⟩
      replace H : (if (bq16 = true) then (proof_across.l0 k1 l1 x5_1 l0_1 (l0_1.length : Int) (wrap64 (x17_1 + 1))) else (proof_across.l0 k1 l1 (wrap64 (x5_1 + ((rd_T98 l0_1 x17_1).f2))) l0_1 (l0_1.length : Int) (wrap64 (x17_1 + 1)))) = some (r1, r2) := by rw [← hbq16] at H; exact H
      have Nbq16 := ak hbq16
      clear hbq16
      by_cases c17 : (bq16 = true)
      ·
       subst c17
       have H1 : (proof_across.l0 k1 l1 x5_1 l0_1 (l0_1.length : Int) (wrap64 (x17_1 + 1))) = some (r1, r2) := by rw [if_pos rfl] at H; exact H
       clear H
       have H := H1
       clear H1
       have H' := ak H
       clear H
       have p127 : 0 ≤ (x17_1 : Int) := oda
       have q127 : x17_1 < (l0_1.length : Int) := oda
       obtain ⟨ad127, e127, hx127_0, hx127_1, hx127_2, hx127_3⟩ := at_T98 HR0_1.out x17_1 p127 q127
       cases e127
       (try replace hx127_0 := (HB.out.cell (World.block_lt_of_cell? w _ hx127_0)).trans hx127_0)
       (try replace hx127_1 := (HB.out.cell (World.block_lt_of_cell? w _ hx127_1)).trans hx127_1)
       (try replace hx127_2 := (HB.out.cell (World.block_lt_of_cell? w _ hx127_2)).trans hx127_2)
       (try replace hx127_3 := (HB.out.cell (World.block_lt_of_cell? w _ hx127_3)).trans hx127_3)
       replace p127 := eq_true p127
       replace q127 := eq_true q127
       go_wp2_with (first | ((with_reducible refine gate_dst (N := 7) rfl ?_); refine box_event ?hg (N := 7) ?hd (cs := #[.int .i64 0, .int .i64 0, .int .i64 0, .int .i64 0]) (t := 98) ?hr ?_; (case hd => rfl); (case hg => rfl); (case hr => first | (go_simp; done) | (go_simp; rfl)); intro gb128 hg w18 hbox hb; have n0_ := ak (blk_below (bx BK126.out) hb); have n1_ := ak (below_step lb hb); have n2_ := ak (hbox); have n3_ := ak ((by rw [hg]; exact (below_size lb) : w.heap.size ≤ gb128)); have n4_ := ak ((by rw [hg]; exact (below_size lb) : w.heap.size ≤ gb128)); have n5_ := ak ((by rw [hg]; exact Nat.ne_of_lt (blk_lt (g := gb126) (o := .cells #[.int .i64 a0_0, .slice (some ad127) l0_1.length c0_1] 24 (0, 0)) (bx BK126.out)) : gb126 ≠ gb128)); have n6_ := ak ((by rw [hg]; exact Nat.ne_of_gt (blk_lt (g := gb126) (o := .cells #[.int .i64 a0_0, .slice (some ad127) l0_1.length c0_1] 24 (0, 0)) (bx BK126.out)) : gb128 ≠ gb126)); clear BK126; clear HB; have BK126 := n0_; have HB := n1_; have BK128 := n2_; have GW128 := n3_; have GE128 := n4_; have NB126_128 := n5_; have NB128_126 := n6_; clear n0_ n1_ n2_ n3_ n4_ n5_ n6_; clear hb hbox hg; have hnb19 := NB128_126.out; have hnc19 := NB126_128.out; have hcz20_0 : w18.cell? ⟨gb128, 0, none⟩ = some (.int .i64 0) := (blk_cell BK128.out 0).trans rfl; have hcz20_1 : w18.cell? ⟨gb128, 1, none⟩ = some (.int .i64 0) := (blk_cell BK128.out 1).trans rfl; have hcz20_2 : w18.cell? ⟨gb128, 2, none⟩ = some (.int .i64 0) := (blk_cell BK128.out 2).trans rfl; have hcz20_3 : w18.cell? ⟨gb128, 3, none⟩ = some (.int .i64 0) := (blk_cell BK128.out 3).trans rfl; have hfz20_0 := blk_frozen BK128.out 0; have hfz20_1 := blk_frozen BK128.out 1; have hfz20_2 := blk_frozen BK128.out 2; have hfz20_3 := blk_frozen BK128.out 3; have p129 : 0 ≤ (((rd_T98 l0_1 x17_1).f0) : Int) := oda; have q129 : ((rd_T98 l0_1 x17_1).f0) < (l1.length : Int) := oda; obtain ⟨ad129, e129, hx129_0⟩ := Kd.at_bool HR1.out ((rd_T98 l0_1 x17_1).f0) p129 q129; (try rw [← Nbq12.out] at hx129_0); (try rw [← Nbq16.out] at hx129_0); cases e129; have hn129_0 : ad129.block ≠ gb128 := Nat.ne_of_lt (Nat.lt_of_lt_of_le (by have := World.block_lt_of_cell? _ _ hx129_0; first | rwa [add_block] at this | exact this) GW128.out); have hn129_1 : ad129.block ≠ gb128 := Nat.ne_of_lt (Nat.lt_of_lt_of_le (by have := World.block_lt_of_cell? _ _ hx129_0; first | rwa [add_block] at this | exact this) GW128.out); have hn129_2 : ad129.block ≠ gb128 := Nat.ne_of_lt (Nat.lt_of_lt_of_le (by have := World.block_lt_of_cell? _ _ hx129_0; first | rwa [add_block] at this | exact this) GW128.out); have hn129_3 : ad129.block ≠ gb128 := Nat.ne_of_lt (Nat.lt_of_lt_of_le (by have := World.block_lt_of_cell? _ _ hx129_0; first | rwa [add_block] at this | exact this) GW128.out); replace hx129_0 := (HB.out.cell (World.block_lt_of_cell? w _ hx129_0)).trans hx129_0; replace hx129_0 := (cell_far (p := ⟨gb128, 0, none⟩) (by first | (rw [add_block]; exact hn129_0) | (show (Addr.add _ _).block ≠ _; rw [add_block]; exact hn129_0) | exact hn129_0) (.int .i64 ((rd_T98 l0_1 x17_1).f0))).trans hx129_0; replace hx129_0 := (cell_far (p := ⟨gb128, 1, none⟩) (by first | (rw [add_block]; exact hn129_1) | (show (Addr.add _ _).block ≠ _; rw [add_block]; exact hn129_1) | exact hn129_1) (.int .i64 ((rd_T98 l0_1 x17_1).f1))).trans hx129_0; replace hx129_0 := (cell_far (p := ⟨gb128, 2, none⟩) (by first | (rw [add_block]; exact hn129_2) | (show (Addr.add _ _).block ≠ _; rw [add_block]; exact hn129_2) | exact hn129_2) (.int .i64 ((rd_T98 l0_1 x17_1).f2))).trans hx129_0; replace hx129_0 := (cell_far (p := ⟨gb128, 3, none⟩) (by first | (rw [add_block]; exact hn129_3) | (show (Addr.add _ _).block ≠ _; rw [add_block]; exact hn129_3) | exact hn129_3) (.int .i64 ((rd_T98 l0_1 x17_1).f3))).trans hx129_0; clear hn129_0; clear hn129_1; clear hn129_2; clear hn129_3; replace p129 := eq_true p129; replace q129 := eq_true q129; have p130 : 0 ≤ (((rd_T98 l0_1 x17_1).f1) : Int) := oda; have q130 : ((rd_T98 l0_1 x17_1).f1) < (l1.length : Int) := oda; obtain ⟨ad130, e130, hx130_0⟩ := Kd.at_bool HR1.out ((rd_T98 l0_1 x17_1).f1) p130 q130; (try rw [← Nbq12.out] at hx130_0); (try rw [← Nbq16.out] at hx130_0); obtain rfl : ad129 = ad130 := (by injection e130); have hn130_0 : ad129.block ≠ gb128 := Nat.ne_of_lt (Nat.lt_of_lt_of_le (by have := World.block_lt_of_cell? _ _ hx130_0; first | rwa [add_block] at this | exact this) GW128.out); have hn130_1 : ad129.block ≠ gb128 := Nat.ne_of_lt (Nat.lt_of_lt_of_le (by have := World.block_lt_of_cell? _ _ hx130_0; first | rwa [add_block] at this | exact this) GW128.out); have hn130_2 : ad129.block ≠ gb128 := Nat.ne_of_lt (Nat.lt_of_lt_of_le (by have := World.block_lt_of_cell? _ _ hx130_0; first | rwa [add_block] at this | exact this) GW128.out); have hn130_3 : ad129.block ≠ gb128 := Nat.ne_of_lt (Nat.lt_of_lt_of_le (by have := World.block_lt_of_cell? _ _ hx130_0; first | rwa [add_block] at this | exact this) GW128.out); replace hx130_0 := (HB.out.cell (World.block_lt_of_cell? w _ hx130_0)).trans hx130_0; replace hx130_0 := (cell_far (p := ⟨gb128, 0, none⟩) (by first | (rw [add_block]; exact hn130_0) | (show (Addr.add _ _).block ≠ _; rw [add_block]; exact hn130_0) | exact hn130_0) (.int .i64 ((rd_T98 l0_1 x17_1).f0))).trans hx130_0; replace hx130_0 := (cell_far (p := ⟨gb128, 1, none⟩) (by first | (rw [add_block]; exact hn130_1) | (show (Addr.add _ _).block ≠ _; rw [add_block]; exact hn130_1) | exact hn130_1) (.int .i64 ((rd_T98 l0_1 x17_1).f1))).trans hx130_0; replace hx130_0 := (cell_far (p := ⟨gb128, 2, none⟩) (by first | (rw [add_block]; exact hn130_2) | (show (Addr.add _ _).block ≠ _; rw [add_block]; exact hn130_2) | exact hn130_2) (.int .i64 ((rd_T98 l0_1 x17_1).f2))).trans hx130_0; replace hx130_0 := (cell_far (p := ⟨gb128, 3, none⟩) (by first | (rw [add_block]; exact hn130_3) | (show (Addr.add _ _).block ≠ _; rw [add_block]; exact hn130_3) | exact hn130_3) (.int .i64 ((rd_T98 l0_1 x17_1).f3))).trans hx130_0; clear hn130_0; clear hn130_1; clear hn130_2; clear hn130_3; replace p130 := eq_true p130; replace q130 := eq_true q130))
       go_roundg k1
       case measure => have := HK1.out; omega
       case rel => exact ⟨(x5_1), (wrap64 (x17_1 + 1)), (by first | rfl | (simp [*]; done)), (by first | rfl | (simp [*]; done)), H', ⟨by have := HK1.out; omega⟩, ⟨by (with_reducible repeat (first | refine blk_drewN ?_ _ | refine blk_drew ?_ | refine blk_alloc ?_ _)); refine blk_far ?_ NB126_128.out _; (with_reducible repeat (first | refine blk_drewN ?_ _ | refine blk_drew ?_ | refine blk_alloc ?_ _)); refine blk_far ?_ NB126_128.out _; (with_reducible repeat (first | refine blk_drewN ?_ _ | refine blk_drew ?_ | refine blk_alloc ?_ _)); refine blk_far ?_ NB126_128.out _; (with_reducible repeat (first | refine blk_drewN ?_ _ | refine blk_drew ?_ | refine blk_alloc ?_ _)); refine blk_far ?_ NB126_128.out _; exact bx BK126.out⟩, ⟨lb⟩⟩
      ·
       replace c17 := Bool.eq_false_iff.mpr c17
       subst c17
       have H1 : (proof_across.l0 k1 l1 (wrap64 (x5_1 + ((rd_T98 l0_1 x17_1).f2))) l0_1 (l0_1.length : Int) (wrap64 (x17_1 + 1))) = some (r1, r2) := by rw [if_neg (show ¬ (false = true) by decide)] at H; exact H
       clear H
       have H := H1
       clear H1
       have H' := ak H
       clear H
       have p127 : 0 ≤ (x17_1 : Int) := oda
       have q127 : x17_1 < (l0_1.length : Int) := oda
       obtain ⟨ad127, e127, hx127_0, hx127_1, hx127_2, hx127_3⟩ := at_T98 HR0_1.out x17_1 p127 q127
       cases e127
       (try replace hx127_0 := (HB.out.cell (World.block_lt_of_cell? w _ hx127_0)).trans hx127_0)
       (try replace hx127_1 := (HB.out.cell (World.block_lt_of_cell? w _ hx127_1)).trans hx127_1)
       (try replace hx127_2 := (HB.out.cell (World.block_lt_of_cell? w _ hx127_2)).trans hx127_2)
       (try replace hx127_3 := (HB.out.cell (World.block_lt_of_cell? w _ hx127_3)).trans hx127_3)
       replace p127 := eq_true p127
       replace q127 := eq_true q127
       go_wp2_with (first | ((with_reducible refine gate_dst (N := 7) rfl ?_); refine box_event ?hg (N := 7) ?hd (cs := #[.int .i64 0, .int .i64 0, .int .i64 0, .int .i64 0]) (t := 98) ?hr ?_; (case hd => rfl); (case hg => rfl); (case hr => first | (go_simp; done) | (go_simp; rfl)); intro gb128 hg w21 hbox hb; have n0_ := ak (blk_below (bx BK126.out) hb); have n1_ := ak (below_step lb hb); have n2_ := ak (hbox); have n3_ := ak ((by rw [hg]; exact (below_size lb) : w.heap.size ≤ gb128)); have n4_ := ak ((by rw [hg]; exact (below_size lb) : w.heap.size ≤ gb128)); have n5_ := ak ((by rw [hg]; exact Nat.ne_of_lt (blk_lt (g := gb126) (o := .cells #[.int .i64 a0_0, .slice (some ad127) l0_1.length c0_1] 24 (0, 0)) (bx BK126.out)) : gb126 ≠ gb128)); have n6_ := ak ((by rw [hg]; exact Nat.ne_of_gt (blk_lt (g := gb126) (o := .cells #[.int .i64 a0_0, .slice (some ad127) l0_1.length c0_1] 24 (0, 0)) (bx BK126.out)) : gb128 ≠ gb126)); clear BK126; clear HB; have BK126 := n0_; have HB := n1_; have BK128 := n2_; have GW128 := n3_; have GE128 := n4_; have NB126_128 := n5_; have NB128_126 := n6_; clear n0_ n1_ n2_ n3_ n4_ n5_ n6_; clear hb hbox hg; have hnb22 := NB128_126.out; have hnc22 := NB126_128.out; have hcz23_0 : w21.cell? ⟨gb128, 0, none⟩ = some (.int .i64 0) := (blk_cell BK128.out 0).trans rfl; have hcz23_1 : w21.cell? ⟨gb128, 1, none⟩ = some (.int .i64 0) := (blk_cell BK128.out 1).trans rfl; have hcz23_2 : w21.cell? ⟨gb128, 2, none⟩ = some (.int .i64 0) := (blk_cell BK128.out 2).trans rfl; have hcz23_3 : w21.cell? ⟨gb128, 3, none⟩ = some (.int .i64 0) := (blk_cell BK128.out 3).trans rfl; have hfz23_0 := blk_frozen BK128.out 0; have hfz23_1 := blk_frozen BK128.out 1; have hfz23_2 := blk_frozen BK128.out 2; have hfz23_3 := blk_frozen BK128.out 3; have p129 : 0 ≤ (((rd_T98 l0_1 x17_1).f0) : Int) := oda; have q129 : ((rd_T98 l0_1 x17_1).f0) < (l1.length : Int) := oda; obtain ⟨ad129, e129, hx129_0⟩ := Kd.at_bool HR1.out ((rd_T98 l0_1 x17_1).f0) p129 q129; (try rw [← Nbq12.out] at hx129_0); (try rw [← Nbq16.out] at hx129_0); cases e129; have hn129_0 : ad129.block ≠ gb128 := Nat.ne_of_lt (Nat.lt_of_lt_of_le (by have := World.block_lt_of_cell? _ _ hx129_0; first | rwa [add_block] at this | exact this) GW128.out); have hn129_1 : ad129.block ≠ gb128 := Nat.ne_of_lt (Nat.lt_of_lt_of_le (by have := World.block_lt_of_cell? _ _ hx129_0; first | rwa [add_block] at this | exact this) GW128.out); have hn129_2 : ad129.block ≠ gb128 := Nat.ne_of_lt (Nat.lt_of_lt_of_le (by have := World.block_lt_of_cell? _ _ hx129_0; first | rwa [add_block] at this | exact this) GW128.out); have hn129_3 : ad129.block ≠ gb128 := Nat.ne_of_lt (Nat.lt_of_lt_of_le (by have := World.block_lt_of_cell? _ _ hx129_0; first | rwa [add_block] at this | exact this) GW128.out); replace hx129_0 := (HB.out.cell (World.block_lt_of_cell? w _ hx129_0)).trans hx129_0; replace hx129_0 := (cell_far (p := ⟨gb128, 0, none⟩) (by first | (rw [add_block]; exact hn129_0) | (show (Addr.add _ _).block ≠ _; rw [add_block]; exact hn129_0) | exact hn129_0) (.int .i64 ((rd_T98 l0_1 x17_1).f0))).trans hx129_0; replace hx129_0 := (cell_far (p := ⟨gb128, 1, none⟩) (by first | (rw [add_block]; exact hn129_1) | (show (Addr.add _ _).block ≠ _; rw [add_block]; exact hn129_1) | exact hn129_1) (.int .i64 ((rd_T98 l0_1 x17_1).f1))).trans hx129_0; replace hx129_0 := (cell_far (p := ⟨gb128, 2, none⟩) (by first | (rw [add_block]; exact hn129_2) | (show (Addr.add _ _).block ≠ _; rw [add_block]; exact hn129_2) | exact hn129_2) (.int .i64 ((rd_T98 l0_1 x17_1).f2))).trans hx129_0; replace hx129_0 := (cell_far (p := ⟨gb128, 3, none⟩) (by first | (rw [add_block]; exact hn129_3) | (show (Addr.add _ _).block ≠ _; rw [add_block]; exact hn129_3) | exact hn129_3) (.int .i64 ((rd_T98 l0_1 x17_1).f3))).trans hx129_0; clear hn129_0; clear hn129_1; clear hn129_2; clear hn129_3; replace p129 := eq_true p129; replace q129 := eq_true q129; have p130 : 0 ≤ (((rd_T98 l0_1 x17_1).f1) : Int) := oda; have q130 : ((rd_T98 l0_1 x17_1).f1) < (l1.length : Int) := oda; obtain ⟨ad130, e130, hx130_0⟩ := Kd.at_bool HR1.out ((rd_T98 l0_1 x17_1).f1) p130 q130; (try rw [← Nbq12.out] at hx130_0); (try rw [← Nbq16.out] at hx130_0); obtain rfl : ad129 = ad130 := (by injection e130); have hn130_0 : ad129.block ≠ gb128 := Nat.ne_of_lt (Nat.lt_of_lt_of_le (by have := World.block_lt_of_cell? _ _ hx130_0; first | rwa [add_block] at this | exact this) GW128.out); have hn130_1 : ad129.block ≠ gb128 := Nat.ne_of_lt (Nat.lt_of_lt_of_le (by have := World.block_lt_of_cell? _ _ hx130_0; first | rwa [add_block] at this | exact this) GW128.out); have hn130_2 : ad129.block ≠ gb128 := Nat.ne_of_lt (Nat.lt_of_lt_of_le (by have := World.block_lt_of_cell? _ _ hx130_0; first | rwa [add_block] at this | exact this) GW128.out); have hn130_3 : ad129.block ≠ gb128 := Nat.ne_of_lt (Nat.lt_of_lt_of_le (by have := World.block_lt_of_cell? _ _ hx130_0; first | rwa [add_block] at this | exact this) GW128.out); replace hx130_0 := (HB.out.cell (World.block_lt_of_cell? w _ hx130_0)).trans hx130_0; replace hx130_0 := (cell_far (p := ⟨gb128, 0, none⟩) (by first | (rw [add_block]; exact hn130_0) | (show (Addr.add _ _).block ≠ _; rw [add_block]; exact hn130_0) | exact hn130_0) (.int .i64 ((rd_T98 l0_1 x17_1).f0))).trans hx130_0; replace hx130_0 := (cell_far (p := ⟨gb128, 1, none⟩) (by first | (rw [add_block]; exact hn130_1) | (show (Addr.add _ _).block ≠ _; rw [add_block]; exact hn130_1) | exact hn130_1) (.int .i64 ((rd_T98 l0_1 x17_1).f1))).trans hx130_0; replace hx130_0 := (cell_far (p := ⟨gb128, 2, none⟩) (by first | (rw [add_block]; exact hn130_2) | (show (Addr.add _ _).block ≠ _; rw [add_block]; exact hn130_2) | exact hn130_2) (.int .i64 ((rd_T98 l0_1 x17_1).f2))).trans hx130_0; replace hx130_0 := (cell_far (p := ⟨gb128, 3, none⟩) (by first | (rw [add_block]; exact hn130_3) | (show (Addr.add _ _).block ≠ _; rw [add_block]; exact hn130_3) | exact hn130_3) (.int .i64 ((rd_T98 l0_1 x17_1).f3))).trans hx130_0; clear hn130_0; clear hn130_1; clear hn130_2; clear hn130_3; replace p130 := eq_true p130; replace q130 := eq_true q130))
       go_roundg k1
       case measure => have := HK1.out; omega
       case rel => exact ⟨(wrap64 (x5_1 + ((rd_T98 l0_1 x17_1).f2))), (wrap64 (x17_1 + 1)), (by first | rfl | (simp [*]; done)), (by first | rfl | (simp [*]; done)), H', ⟨by have := HK1.out; omega⟩, ⟨by (with_reducible repeat (first | refine blk_drewN ?_ _ | refine blk_drew ?_ | refine blk_alloc ?_ _)); refine blk_far ?_ NB126_128.out _; (with_reducible repeat (first | refine blk_drewN ?_ _ | refine blk_drew ?_ | refine blk_alloc ?_ _)); refine blk_far ?_ NB126_128.out _; (with_reducible repeat (first | refine blk_drewN ?_ _ | refine blk_drew ?_ | refine blk_alloc ?_ _)); refine blk_far ?_ NB126_128.out _; (with_reducible repeat (first | refine blk_drewN ?_ _ | refine blk_drew ?_ | refine blk_alloc ?_ _)); refine blk_far ?_ NB126_128.out _; exact bx BK126.out⟩, ⟨lb⟩⟩
     ·
      replace c13 := Bool.eq_false_iff.mpr c13
      subst c13
      have H1 : (proof_across.l0 k1 l1 x5_1 l0_1 (l0_1.length : Int) (wrap64 (x17_1 + 1))) = some (r1, r2) := by rw [if_neg (show ¬ (false = true) by decide)] at H; exact H
      clear H
      have H := H1
      clear H1
      have H' := ak H
      clear H
      have p127 : 0 ≤ (x17_1 : Int) := oda
      have q127 : x17_1 < (l0_1.length : Int) := oda
      obtain ⟨ad127, e127, hx127_0, hx127_1, hx127_2, hx127_3⟩ := at_T98 HR0_1.out x17_1 p127 q127
      cases e127
      (try replace hx127_0 := (HB.out.cell (World.block_lt_of_cell? w _ hx127_0)).trans hx127_0)
      (try replace hx127_1 := (HB.out.cell (World.block_lt_of_cell? w _ hx127_1)).trans hx127_1)
      (try replace hx127_2 := (HB.out.cell (World.block_lt_of_cell? w _ hx127_2)).trans hx127_2)
      (try replace hx127_3 := (HB.out.cell (World.block_lt_of_cell? w _ hx127_3)).trans hx127_3)
      replace p127 := eq_true p127
      replace q127 := eq_true q127
      go_wp2_with (first | ((with_reducible refine gate_dst (N := 7) rfl ?_); refine box_event ?hg (N := 7) ?hd (cs := #[.int .i64 0, .int .i64 0, .int .i64 0, .int .i64 0]) (t := 98) ?hr ?_; (case hd => rfl); (case hg => rfl); (case hr => first | (go_simp; done) | (go_simp; rfl)); intro gb128 hg w24 hbox hb; have n0_ := ak (blk_below (bx BK126.out) hb); have n1_ := ak (below_step lb hb); have n2_ := ak (hbox); have n3_ := ak ((by rw [hg]; exact (below_size lb) : w.heap.size ≤ gb128)); have n4_ := ak ((by rw [hg]; exact (below_size lb) : w.heap.size ≤ gb128)); have n5_ := ak ((by rw [hg]; exact Nat.ne_of_lt (blk_lt (g := gb126) (o := .cells #[.int .i64 a0_0, .slice (some ad127) l0_1.length c0_1] 24 (0, 0)) (bx BK126.out)) : gb126 ≠ gb128)); have n6_ := ak ((by rw [hg]; exact Nat.ne_of_gt (blk_lt (g := gb126) (o := .cells #[.int .i64 a0_0, .slice (some ad127) l0_1.length c0_1] 24 (0, 0)) (bx BK126.out)) : gb128 ≠ gb126)); clear BK126; clear HB; have BK126 := n0_; have HB := n1_; have BK128 := n2_; have GW128 := n3_; have GE128 := n4_; have NB126_128 := n5_; have NB128_126 := n6_; clear n0_ n1_ n2_ n3_ n4_ n5_ n6_; clear hb hbox hg; have hnb25 := NB128_126.out; have hnc25 := NB126_128.out; have hcz26_0 : w24.cell? ⟨gb128, 0, none⟩ = some (.int .i64 0) := (blk_cell BK128.out 0).trans rfl; have hcz26_1 : w24.cell? ⟨gb128, 1, none⟩ = some (.int .i64 0) := (blk_cell BK128.out 1).trans rfl; have hcz26_2 : w24.cell? ⟨gb128, 2, none⟩ = some (.int .i64 0) := (blk_cell BK128.out 2).trans rfl; have hcz26_3 : w24.cell? ⟨gb128, 3, none⟩ = some (.int .i64 0) := (blk_cell BK128.out 3).trans rfl; have hfz26_0 := blk_frozen BK128.out 0; have hfz26_1 := blk_frozen BK128.out 1; have hfz26_2 := blk_frozen BK128.out 2; have hfz26_3 := blk_frozen BK128.out 3; have p129 : 0 ≤ (((rd_T98 l0_1 x17_1).f0) : Int) := oda; have q129 : ((rd_T98 l0_1 x17_1).f0) < (l1.length : Int) := oda; obtain ⟨ad129, e129, hx129_0⟩ := Kd.at_bool HR1.out ((rd_T98 l0_1 x17_1).f0) p129 q129; (try rw [← Nbq12.out] at hx129_0); cases e129; have hn129_0 : ad129.block ≠ gb128 := Nat.ne_of_lt (Nat.lt_of_lt_of_le (by have := World.block_lt_of_cell? _ _ hx129_0; first | rwa [add_block] at this | exact this) GW128.out); have hn129_1 : ad129.block ≠ gb128 := Nat.ne_of_lt (Nat.lt_of_lt_of_le (by have := World.block_lt_of_cell? _ _ hx129_0; first | rwa [add_block] at this | exact this) GW128.out); have hn129_2 : ad129.block ≠ gb128 := Nat.ne_of_lt (Nat.lt_of_lt_of_le (by have := World.block_lt_of_cell? _ _ hx129_0; first | rwa [add_block] at this | exact this) GW128.out); have hn129_3 : ad129.block ≠ gb128 := Nat.ne_of_lt (Nat.lt_of_lt_of_le (by have := World.block_lt_of_cell? _ _ hx129_0; first | rwa [add_block] at this | exact this) GW128.out); replace hx129_0 := (HB.out.cell (World.block_lt_of_cell? w _ hx129_0)).trans hx129_0; replace hx129_0 := (cell_far (p := ⟨gb128, 0, none⟩) (by first | (rw [add_block]; exact hn129_0) | (show (Addr.add _ _).block ≠ _; rw [add_block]; exact hn129_0) | exact hn129_0) (.int .i64 ((rd_T98 l0_1 x17_1).f0))).trans hx129_0; replace hx129_0 := (cell_far (p := ⟨gb128, 1, none⟩) (by first | (rw [add_block]; exact hn129_1) | (show (Addr.add _ _).block ≠ _; rw [add_block]; exact hn129_1) | exact hn129_1) (.int .i64 ((rd_T98 l0_1 x17_1).f1))).trans hx129_0; replace hx129_0 := (cell_far (p := ⟨gb128, 2, none⟩) (by first | (rw [add_block]; exact hn129_2) | (show (Addr.add _ _).block ≠ _; rw [add_block]; exact hn129_2) | exact hn129_2) (.int .i64 ((rd_T98 l0_1 x17_1).f2))).trans hx129_0; replace hx129_0 := (cell_far (p := ⟨gb128, 3, none⟩) (by first | (rw [add_block]; exact hn129_3) | (show (Addr.add _ _).block ≠ _; rw [add_block]; exact hn129_3) | exact hn129_3) (.int .i64 ((rd_T98 l0_1 x17_1).f3))).trans hx129_0; clear hn129_0; clear hn129_1; clear hn129_2; clear hn129_3; replace p129 := eq_true p129; replace q129 := eq_true q129))
      go_roundg k1
      case measure => have := HK1.out; omega
      case rel => exact ⟨(x5_1), (wrap64 (x17_1 + 1)), (by first | rfl | (simp [*]; done)), (by first | rfl | (simp [*]; done)), H', ⟨by have := HK1.out; omega⟩, ⟨by (with_reducible repeat (first | refine blk_drewN ?_ _ | refine blk_drew ?_ | refine blk_alloc ?_ _)); refine blk_far ?_ NB126_128.out _; (with_reducible repeat (first | refine blk_drewN ?_ _ | refine blk_drew ?_ | refine blk_alloc ?_ _)); refine blk_far ?_ NB126_128.out _; (with_reducible repeat (first | refine blk_drewN ?_ _ | refine blk_drew ?_ | refine blk_alloc ?_ _)); refine blk_far ?_ NB126_128.out _; (with_reducible repeat (first | refine blk_drewN ?_ _ | refine blk_drew ?_ | refine blk_alloc ?_ _)); refine blk_far ?_ NB126_128.out _; exact bx BK126.out⟩, ⟨lb⟩⟩
    ·
     rw [if_neg c7] at H
     have c7b0 : decide (x17_1 < (l0_1.length : Int)) = false := decide_eq_false c7
     clear c7
     simp only [Option.some.injEq, Prod.mk.injEq] at H
     obtain ⟨rfl, rfl⟩ := H
     go_wp2
     go_ret
     exact Gave.ok ⟨by first | rfl | (simp [errW_none, errW_some] <;> rfl) | (simp [*, errW_none, errW_some] <;> rfl), lb⟩
 ·
  rw [if_neg c3] at H
  have c3b0 : ((l1.length : Int) == a0_0) = false := beq_eq_false_iff_ne.mpr c3
  have c3b1 : ((l1.length : Int) != a0_0) = true := bne_iff_ne.mpr c3
  simp only [Option.some.injEq, Prod.mk.injEq] at H
  obtain ⟨rfl, rfl⟩ := H
  go_enter Try.func53, Try.ntmps53
  go_wp2_with (first | ((with_reducible refine gate_dst (N := 2) rfl ?_); refine box_event ?hg (N := 2) ?hd (cs := #[.int .i64 a0_0, .slice A0_1 l0_1.length c0_1]) (t := 24) ?hr ?_; (case hd => rfl); (case hg => rfl); (case hr => first | (go_simp; done) | (go_simp; rfl)); intro gb126 hg w27 hbox hb; have n0_ := ak (below_step lb hb); have n1_ := ak (hbox); have n2_ := ak ((by rw [hg]; exact (below_size lb) : w.heap.size ≤ gb126)); have n3_ := ak ((by rw [hg]; exact (below_size lb) : w.heap.size ≤ gb126)); clear HB; have HB := n0_; have BK126 := n1_; have GW126 := n2_; have GE126 := n3_; clear n0_ n1_ n2_ n3_; clear hb hbox hg; have hcz28_0 : w27.cell? ⟨gb126, 0, none⟩ = some (.int .i64 a0_0) := (blk_cell BK126.out 0).trans rfl; have hcz28_1 : w27.cell? ⟨gb126, 1, none⟩ = some (.slice A0_1 l0_1.length c0_1) := (blk_cell BK126.out 1).trans rfl; have hfz28_0 := blk_frozen BK126.out 0; have hfz28_1 := blk_frozen BK126.out 1) | ((with_reducible refine gate_callee (f := 51) rfl ?_); refine panicsL_ (some 13) rfl rfl Try.func51 (by kernel_rfl) rfl #[.bool false, .int .i64 221] rfl (by (try simp only [List.map_toArray, List.map_cons, List.map_nil]); first | done | rfl | (simp only [List.length_drop, List.length_take]; rfl)) ?_; refine (proof_need.bad 221 _).mono ?_; rintro e w' ⟨rfl, rfl⟩; refine ⟨_, rfl, ?_⟩; (repeat (first | refine panic_then ?_ | refine panic_block ?_)); exact panic_body rfl (Gave.no (by first | decide | assumption | (simp_all; done)) ⟨rfl, lb⟩)))
theorem proof_across.ok (k : Nat) (a0_0 : Int) (A0_1 : Option Addr) (c0_1 : Nat) (l0_1 : List (S98)) (A1 : Option Addr) (c1 : Nat) (l1 : List Bool) (r2 : Int) (w : World) (hr0_1 : Kd.C k98 w A0_1 l0_1.length l0_1) (hc0_1 : l0_1.length ≤ c0_1) (hr1 : Kd.C Kd.bool w A1 l1.length l1) (hc1 : l1.length ≤ c1) (h : proof_across.f k a0_0 l0_1 l1 = some (0, r2)) :
    Calls Try.prog 53 #[.agg #[.int .i64 a0_0, .slice A0_1 l0_1.length c0_1], .slice A1 l1.length c1] w fun e w' => e = .returned (.int .i64 r2) ∧ Below w.heap.size w w' :=
 (proof_across.calls k a0_0 A0_1 c0_1 l0_1 A1 c1 l1 0 r2 w hr0_1 hc0_1 hr1 hc1 h).mono fun e w' h_ => h_.good rfl
theorem proof_across.bad (k : Nat) (a0_0 : Int) (A0_1 : Option Addr) (c0_1 : Nat) (l0_1 : List (S98)) (A1 : Option Addr) (c1 : Nat) (l1 : List Bool) (r1 : Int) (r2 : Int) (w : World) (hr0_1 : Kd.C k98 w A0_1 l0_1.length l0_1) (hc0_1 : l0_1.length ≤ c0_1) (hr1 : Kd.C Kd.bool w A1 l1.length l1) (hc1 : l1.length ≤ c1) (h : proof_across.f k a0_0 l0_1 l1 = some (r1, r2)) (hne_ : r1 ≠ 0) :
    Calls Try.prog 53 #[.agg #[.int .i64 a0_0, .slice A0_1 l0_1.length c0_1], .slice A1 l1.length c1] w fun e w' => e = gave r1 ∧ Below w.heap.size w w' :=
 (proof_across.calls k a0_0 A0_1 c0_1 l0_1 A1 c1 l1 r1 r2 w hr0_1 hc0_1 hr1 hc1 h).mono fun e w' h_ => h_.bad hne_

end Go.Proofs.Ytkdoihcjhccliaa.Q
