-- PRINTED by print.py (a twelfth state) out of the translation. Not trusted: Lean checks it.
import Derived.Test.YtacklfnnpiobgaaQ0
import Derived.Test.YtacklfnnpiobgaaQ5
namespace Go.Proofs.Ytacklfnnpiobgaa.Q
open Go.RowKit Go.Proofs.YtacklfnnpiobgaaW.PrintWords Go.Proofs.YtacklfnnpiobgaaW.PrintLast Go.Proofs.YtacklfnnpiobgaaW.PrintMore
attribute [local go_sem] max2_int min2_int max_two min_two max_three min_three max_four min_four   -- for this text's walks alone
set_option linter.unusedVariables false
set_option linter.unusedSimpArgs false

/-! ### walk_round: function 33 -/
mutual
def walk_round.l0 : Nat → List Bool → List Int → Int → List (S41) → Int → Int → Int → List (S41) → Option (List Int)
  | 0, _, _, _, _, _, _, _, _ => none
  | k + 1, x1, x5, x6, x18, x19, x20, x150000, x150001 => if x20 < x19 then (if 0 ≤ x20 then (if x20 < (x18.length : Int) then (if 0 ≤ ((rd_T41 x18 x20).f0) then (if ((rd_T41 x18 x20).f0) < (x1.length : Int) then (if (rdOf false x1 ((rd_T41 x18 x20).f0) = true) then (walk_round.l0 k x1 x5 x6 x18 x19 (wrap64 (x20 + 1)) x150000 x150001) else (if 0 ≤ ((rd_T41 x18 x20).f1) then (if ((rd_T41 x18 x20).f1) < (x1.length : Int) then (if (rdOf false x1 ((rd_T41 x18 x20).f1) = true) then (walk_round.l0 k x1 x5 x6 x18 x19 (wrap64 (x20 + 1)) x150000 x150001) else (if ((rd_T41 x18 x20).f1) < (x5.length : Int) then (walk_round.l0 k x1 (x5.set (((rd_T41 x18 x20).f1) : Int).toNat x20) x6 x18 x19 (wrap64 (x20 + 1)) x150000 x150001) else (none))) else (none)) else (none))) else (none)) else (none)) else (none)) else (none)) else (walk_round.l1 k x1 x5 x6 x150000 0 x150000 x150001)
def walk_round.l1 : Nat → List Bool → List Int → Int → Int → Int → Int → List (S41) → Option (List Int)
  | 0, _, _, _, _, _, _, _ => none
  | k + 1, x1, x5, x6, x46, x47, x150000, x150001 => if x47 < x46 then (if 0 ≤ x47 then (if x47 < (x1.length : Int) then (if rdOf false x1 x47 = true then (walk_round.l1 k x1 x5 x6 x46 (wrap64 (x47 + 1)) x150000 x150001) else (walk_round.l1 k x1 x5 x47 x46 (wrap64 (x47 + 1)) x150000 x150001)) else (none)) else (none)) else ((walk_filled.f k x150000 (-1)).bind fun t159 => (walk_round.l2 k x5 x6 t159 ([] : List Int) x150000 x150001))
def walk_round.l2 : Nat → List Int → Int → List Int → List Int → Int → List (S41) → Option (List Int)
  | 0, _, _, _, _, _, _ => none
  | k + 1, x5, x6, x10, x11, x150000, x150001 => if 0 ≤ x6 then (if x6 < (x10.length : Int) then (if (rd x10 x6) < 0 then (if x6 < (x5.length : Int) then (if x11.length < 17592186044416 then (if 0 ≤ (rd x5 x6) then (if (rd x5 x6) < (x150001.length : Int) then (walk_round.l2 k x5 ((rd_T41 x150001 (rd x5 x6)).f0) (x10.set (x6 : Int).toNat (x11.length : Int)) (x11 ++ [rd x5 x6]) x150000 x150001) else (none)) else (none)) else (none)) else (none)) else (walk_round.l3 k x6 x10 x11 ([] : List Int) (wrap64 ((x11.length : Int) - 1)))) else (none)) else (none)
def walk_round.l3 : Nat → Int → List Int → List Int → List Int → Int → Option (List Int)
  | 0, _, _, _, _, _ => none
  | k + 1, x6, x10, x11, x12, x13 => if 0 ≤ x6 then (if x6 < (x10.length : Int) then (if x13 ≥ (rd x10 x6) then (if 0 ≤ x13 then (if x13 < (x11.length : Int) then (if x12.length < 17592186044416 then (walk_round.l3 k x6 x10 x11 (x12 ++ [rd x11 x13]) (wrap64 (x13 - 1))) else (none)) else (none)) else (none)) else (some x12)) else (none)) else (none)
end
def walk_round.f (k : Nat) (a0_0 : Int) (l0_1 : List (S41)) (l1 : List Bool) : Option (List Int) := (walk_filled.f k a0_0 (-1)).bind fun t150 => (walk_round.l0 k l1 t150 (-1) l0_1 (l0_1.length : Int) 0 a0_0 l0_1)
theorem walk_round.mono_l : ∀ k, (∀ y0 y1 y2 y3 y4 y5 y6 y7, LeO (walk_round.l0 k y0 y1 y2 y3 y4 y5 y6 y7) (walk_round.l0 (k + 1) y0 y1 y2 y3 y4 y5 y6 y7)) ∧ (∀ y0 y1 y2 y3 y4 y5 y6, LeO (walk_round.l1 k y0 y1 y2 y3 y4 y5 y6) (walk_round.l1 (k + 1) y0 y1 y2 y3 y4 y5 y6)) ∧ (∀ y0 y1 y2 y3 y4 y5, LeO (walk_round.l2 k y0 y1 y2 y3 y4 y5) (walk_round.l2 (k + 1) y0 y1 y2 y3 y4 y5)) ∧ (∀ y0 y1 y2 y3 y4, LeO (walk_round.l3 k y0 y1 y2 y3 y4) (walk_round.l3 (k + 1) y0 y1 y2 y3 y4))
  | 0 => ⟨fun _ _ _ _ _ _ _ _ r h => by simp [walk_round.l0] at h, fun _ _ _ _ _ _ _ r h => by simp [walk_round.l1] at h, fun _ _ _ _ _ _ r h => by simp [walk_round.l2] at h, fun _ _ _ _ _ r h => by simp [walk_round.l3] at h⟩
  | k + 1 => by
    obtain ⟨ih0, ih1, ih2, ih3⟩ := walk_round.mono_l k
    refine ⟨?_, ?_, ?_, ?_⟩
    · intro y0 y1 y2 y3 y4 y5 y6 y7
      unfold walk_round.l0
      repeat' first
      | (with_reducible exact ih0 _ _ _ _ _ _ _ _)
      | (with_reducible exact ih1 _ _ _ _ _ _ _)
      | (with_reducible exact ih2 _ _ _ _ _ _)
      | (with_reducible exact ih3 _ _ _ _ _)
      | (with_reducible exact walk_filled.mono _ _ _)
      | (with_reducible exact LeO.refl _)
      | (with_reducible exact LeO.none _)
      | (with_reducible refine LeO.ite ?_ ?_)
      | (with_reducible refine LeO.bind ?_ (fun _ => ?_))
      | exact ih0 _ _ _ _ _ _ _ _
      | exact ih1 _ _ _ _ _ _ _
      | exact ih2 _ _ _ _ _ _
      | exact ih3 _ _ _ _ _
      | exact walk_filled.mono _ _ _
      | exact LeO.none _
      | refine LeO.ite ?_ ?_
      | refine LeO.bind ?_ (fun _ => ?_)
    · intro y0 y1 y2 y3 y4 y5 y6
      unfold walk_round.l1
      repeat' first
      | (with_reducible exact ih0 _ _ _ _ _ _ _ _)
      | (with_reducible exact ih1 _ _ _ _ _ _ _)
      | (with_reducible exact ih2 _ _ _ _ _ _)
      | (with_reducible exact ih3 _ _ _ _ _)
      | (with_reducible exact walk_filled.mono _ _ _)
      | (with_reducible exact LeO.refl _)
      | (with_reducible exact LeO.none _)
      | (with_reducible refine LeO.ite ?_ ?_)
      | (with_reducible refine LeO.bind ?_ (fun _ => ?_))
      | exact ih0 _ _ _ _ _ _ _ _
      | exact ih1 _ _ _ _ _ _ _
      | exact ih2 _ _ _ _ _ _
      | exact ih3 _ _ _ _ _
      | exact walk_filled.mono _ _ _
      | exact LeO.none _
      | refine LeO.ite ?_ ?_
      | refine LeO.bind ?_ (fun _ => ?_)
    · intro y0 y1 y2 y3 y4 y5
      unfold walk_round.l2
      repeat' first
      | (with_reducible exact ih0 _ _ _ _ _ _ _ _)
      | (with_reducible exact ih1 _ _ _ _ _ _ _)
      | (with_reducible exact ih2 _ _ _ _ _ _)
      | (with_reducible exact ih3 _ _ _ _ _)
      | (with_reducible exact walk_filled.mono _ _ _)
      | (with_reducible exact LeO.refl _)
      | (with_reducible exact LeO.none _)
      | (with_reducible refine LeO.ite ?_ ?_)
      | (with_reducible refine LeO.bind ?_ (fun _ => ?_))
      | exact ih0 _ _ _ _ _ _ _ _
      | exact ih1 _ _ _ _ _ _ _
      | exact ih2 _ _ _ _ _ _
      | exact ih3 _ _ _ _ _
      | exact walk_filled.mono _ _ _
      | exact LeO.none _
      | refine LeO.ite ?_ ?_
      | refine LeO.bind ?_ (fun _ => ?_)
    · intro y0 y1 y2 y3 y4
      unfold walk_round.l3
      repeat' first
      | (with_reducible exact ih0 _ _ _ _ _ _ _ _)
      | (with_reducible exact ih1 _ _ _ _ _ _ _)
      | (with_reducible exact ih2 _ _ _ _ _ _)
      | (with_reducible exact ih3 _ _ _ _ _)
      | (with_reducible exact walk_filled.mono _ _ _)
      | (with_reducible exact LeO.refl _)
      | (with_reducible exact LeO.none _)
      | (with_reducible refine LeO.ite ?_ ?_)
      | (with_reducible refine LeO.bind ?_ (fun _ => ?_))
      | exact ih0 _ _ _ _ _ _ _ _
      | exact ih1 _ _ _ _ _ _ _
      | exact ih2 _ _ _ _ _ _
      | exact ih3 _ _ _ _ _
      | exact walk_filled.mono _ _ _
      | exact LeO.none _
      | refine LeO.ite ?_ ?_
      | refine LeO.bind ?_ (fun _ => ?_)
theorem walk_round.mono : ∀ a0 a1 a2 k, LeO (walk_round.f k a0 a1 a2) (walk_round.f (k + 1) a0 a1 a2) := by
  intro a0 a1 a2 k
  obtain ⟨ih0, ih1, ih2, ih3⟩ := walk_round.mono_l k
  unfold walk_round.f
  repeat' first
      | (with_reducible exact ih0 _ _ _ _ _ _ _ _)
      | (with_reducible exact ih1 _ _ _ _ _ _ _)
      | (with_reducible exact ih2 _ _ _ _ _ _)
      | (with_reducible exact ih3 _ _ _ _ _)
      | (with_reducible exact walk_filled.mono _ _ _)
      | (with_reducible exact LeO.refl _)
      | (with_reducible exact LeO.none _)
      | (with_reducible refine LeO.ite ?_ ?_)
      | (with_reducible refine LeO.bind ?_ (fun _ => ?_))
      | exact ih0 _ _ _ _ _ _ _ _
      | exact ih1 _ _ _ _ _ _ _
      | exact ih2 _ _ _ _ _ _
      | exact ih3 _ _ _ _ _
      | exact walk_filled.mono _ _ _
      | exact LeO.none _
      | refine LeO.ite ?_ ?_
      | refine LeO.bind ?_ (fun _ => ?_)
set_option maxHeartbeats 8000000 in
set_option maxRecDepth 100000 in
theorem walk_round.calls (k : Nat) (a0_0 : Int) (A0_1 : Option Addr) (c0_1 : Nat) (l0_1 : List (S41)) (A1 : Option Addr) (c1 : Nat) (l1 : List Bool) (r : List Int) (w : World) (hr0_1 : Kd.C k41 w A0_1 l0_1.length l0_1) (hc0_1 : l0_1.length ≤ c0_1) (hr1 : Kd.C Kd.bool w A1 l1.length l1) (hc1 : l1.length ≤ c1) (h : walk_round.f k a0_0 l0_1 l1 = some r) :
    Calls Try.prog 33 #[.agg #[.int .i64 a0_0, .slice A0_1 l0_1.length c0_1], .slice A1 l1.length c1] w fun e w' => ∃ v0_ : Value, e = .returned (v0_) ∧ Kd.R (Kd.int .i64) 3 w' w.heap.size (fun _ => True) v0_ r ∧ Below w.heap.size w w' := by
 have hu24 := Try.underlying24
 have hu41 := Try.underlying41
 have HR0_1 := ak hr0_1
 have HC0_1 := ak hc0_1
 clear hr0_1 hc0_1
 have HR1 := ak hr1
 have HC1 := ak hc1
 clear hr1 hc1
 have HB := ak (Below.refl w.heap.size w)
 have H : ((walk_filled.f k a0_0 (-1)).bind fun t150 => (walk_round.l0 k l1 t150 (-1) l0_1 (l0_1.length : Int) 0 a0_0 l0_1)) = some r := h
 clear h
 replace H := Option.bind_eq_some_iff.mp H
 obtain ⟨t150, A30, H⟩ := H
 replace H : (walk_round.l0 k l1 t150 (-1) l0_1 (l0_1.length : Int) 0 a0_0 l0_1) = some r := H
 have A3 := ak A30
 clear A30
 have H' := ak H
 clear H
 go_enter Try.func33, Try.ntmps33
 go_wp2_with (first | ((with_reducible refine gate_dst (N := 2) rfl ?_); refine box_event ?hg (N := 2) ?hd (cs := #[.int .i64 a0_0, .slice A0_1 l0_1.length c0_1]) (t := 24) ?hr ?_; (case hd => rfl); (case hg => rfl); (case hr => first | (go_simp; done) | (go_simp; rfl)); intro gb149 hg w4 hbox hb; have n0_ := ak (below_step lb hb); have n1_ := ak (hbox); have n2_ := ak ((by rw [hg]; exact (below_size lb) : w.heap.size ≤ gb149)); have n3_ := ak ((by rw [hg]; exact (below_size lb) : w.heap.size ≤ gb149)); clear HB; have HB := n0_; have BK149 := n1_; have GW149 := n2_; have GE149 := n3_; clear n0_ n1_ n2_ n3_; clear hb hbox hg; have hcz5_0 : w4.cell? ⟨gb149, 0, none⟩ = some (.int .i64 a0_0) := (blk_cell BK149.out 0).trans rfl; have hcz5_1 : w4.cell? ⟨gb149, 1, none⟩ = some (.slice A0_1 l0_1.length c0_1) := (blk_cell BK149.out 1).trans rfl; have hfz5_0 := blk_frozen BK149.out 0; have hfz5_1 := blk_frozen BK149.out 1) | (go_at_call 31; (with_reducible refine (walk_filled.calls k a0_0 (-1) t150 _ A3.out).mono ?_); rintro e w6 ⟨v151, rfl, ho0, hb⟩; have n0_ := ak (Kd.R_lower ho0 (below_size lb)); have n1_ := ak (blk_below (bx BK149.out) hb); have n2_ := ak (below_step lb hb); clear BK149; clear HB; have HO152 := n0_; have BK149 := n1_; have HB := n2_; clear n0_ n1_ n2_; (try clear hb); (try clear hb2); (try clear hk); (try clear hi); (try clear ho0); have hcz7_0 : w6.cell? ⟨gb149, 0, none⟩ = some (.int .i64 a0_0) := (blk_cell BK149.out 0).trans rfl; have hcz7_1 : w6.cell? ⟨gb149, 1, none⟩ = some (.slice A0_1 l0_1.length c0_1) := (blk_cell BK149.out 1).trans rfl; have hfz7_0 := blk_frozen BK149.out 0; have hfz7_1 := blk_frozen BK149.out 1))
 go_loopg [20] k (fun kq v20 w' => ∃ (x5_1 : List Int) (x20_1 : Int), v20 = .int .i64 x20_1 ∧ Aside0 (walk_round.l0 kq l1 x5_1 (-1) l0_1 (l0_1.length : Int) x20_1 a0_0 l0_1 = some r) ∧ Aside0 (kq ≤ k) ∧ Aside0 (Kd.R (Kd.int .i64) 3 w' w.heap.size (fun _ => True) v151 x5_1) ∧ Aside0 (w'.heap[gb149]? = some (.cells #[.int .i64 a0_0, (.slice A0_1 l0_1.length c0_1)] 24 (0, 0))) ∧ Aside0 (Below w.heap.size w w'))
 case atStart => exact ⟨(t150), (0), (by first | rfl | (simp [*]; done)), H', ⟨Nat.le_refl _⟩, ⟨rx HO152.out⟩, ⟨bx BK149.out⟩, ⟨lb⟩⟩
 case round =>
  clear H'
  try clear c1; try clear p2; try clear c3; try clear hcz5_0; try clear hcz5_1; try clear hcz7_0; try clear hcz7_1; try clear hfz5_0; try clear hfz5_1; try clear hfz7_0; try clear hfz7_1
  obtain ⟨x5_1, x20_1, rfl, HA, HK1, HO_5, BK149, HB⟩ := hrel
  cases gk with
  | zero => exact absurd HA.out (by simp [walk_round.l0])
  | succ k1 =>
   have H := HA.out
   clear HA
   simp only [walk_round.l0] at H
   by_cases c8 : x20_1 < (l0_1.length : Int)
   ·
    rw [if_pos c8] at H
    have c8b0 : decide (x20_1 < (l0_1.length : Int)) = true := decide_eq_true c8
    clear c8
    by_cases c9 : 0 ≤ x20_1
    rotate_left
    ·
     rw [if_neg c9] at H
     exact absurd H (by simp)
    rw [if_pos c9] at H
    have c9b0 : decide (0 ≤ x20_1) = true := decide_eq_true c9
    clear c9
    by_cases c10 : x20_1 < (l0_1.length : Int)
    rotate_left
    ·
     rw [if_neg c10] at H
     exact absurd H (by simp)
    rw [if_pos c10] at H
    have c10b0 : decide (x20_1 < (l0_1.length : Int)) = true := decide_eq_true c10
    clear c10
    by_cases c11 : 0 ≤ ((rd_T41 l0_1 x20_1).f0)
    rotate_left
    ·
     rw [if_neg c11] at H
     exact absurd H (by simp)
    rw [if_pos c11] at H
    have c11b0 : decide (0 ≤ ((rd_T41 l0_1 x20_1).f0)) = true := decide_eq_true c11
    clear c11
    by_cases c12 : ((rd_T41 l0_1 x20_1).f0) < (l1.length : Int)
    rotate_left
    ·
     rw [if_neg c12] at H
     exact absurd H (by simp)
    rw [if_pos c12] at H
    have c12b0 : decide (((rd_T41 l0_1 x20_1).f0) < (l1.length : Int)) = true := decide_eq_true c12
    clear c12
    obtain ⟨bq13, hbq13⟩ : ∃ b_ : Bool, b_ = (rdOf false l1 ((rd_T41 l0_1 x20_1).f0)) := ⟨_, rfl⟩
    replace H : (if (bq13 = true) then (walk_round.l0 k1 l1 x5_1 (-1) l0_1 (l0_1.length : Int) (wrap64 (x20_1 + 1)) a0_0 l0_1) else (if 0 ≤ ((rd_T41 l0_1 x20_1).f1) then (if ((rd_T41 l0_1 x20_1).f1) < (l1.length : Int) then (if (rdOf false l1 ((rd_T41 l0_1 x20_1).f1) = true) then (walk_round.l0 k1 l1 x5_1 (-1) l0_1 (l0_1.length : Int) (wrap64 (x20_1 + 1)) a0_0 l0_1) else (if ((rd_T41 l0_1 x20_1).f1) < (x5_1.length : Int) then (walk_round.l0 k1 l1 (x5_1.set (((rd_T41 l0_1 x20_1).f1) : Int).toNat x20_1) (-1) l0_1 (l0_1.length : Int) (wrap64 (x20_1 + 1)) a0_0 l0_1) else (none))) else (none)) else (none))) = some r := by rw [← hbq13] at H; exact H
    have Nbq13 := ak hbq13
    clear hbq13
    by_cases c14 : (bq13 = true)
    ·
     subst c14
     have H1 : (walk_round.l0 k1 l1 x5_1 (-1) l0_1 (l0_1.length : Int) (wrap64 (x20_1 + 1)) a0_0 l0_1) = some r := by rw [if_pos rfl] at H; exact H
     clear H
     have H := H1
     clear H1
     have H' := ak H
     clear H
     have p153 : 0 ≤ (x20_1 : Int) := oda
     have q153 : x20_1 < (l0_1.length : Int) := oda
     obtain ⟨ad153, e153, hx153_0, hx153_1, hx153_2, hx153_3⟩ := at_T41 HR0_1.out x20_1 p153 q153
     cases e153
     (try replace hx153_0 := (HB.out.cell (World.block_lt_of_cell? w _ hx153_0)).trans hx153_0)
     (try replace hx153_1 := (HB.out.cell (World.block_lt_of_cell? w _ hx153_1)).trans hx153_1)
     (try replace hx153_2 := (HB.out.cell (World.block_lt_of_cell? w _ hx153_2)).trans hx153_2)
     (try replace hx153_3 := (HB.out.cell (World.block_lt_of_cell? w _ hx153_3)).trans hx153_3)
     replace p153 := eq_true p153
     replace q153 := eq_true q153
     go_wp2_with (first | ((with_reducible refine gate_dst (N := 8) rfl ?_); refine box_event ?hg (N := 8) ?hd (cs := #[.int .i64 0, .int .i64 0, .int .i64 0, .int .i64 0]) (t := 41) ?hr ?_; (case hd => rfl); (case hg => rfl); (case hr => first | (go_simp; done) | (go_simp; rfl)); intro gb154 hg w15 hbox hb; have n0_ := ak (Kd.R_below (rx HO_5.out) hb); have n1_ := ak (blk_below (bx BK149.out) hb); have n2_ := ak (below_step lb hb); have n3_ := ak (hbox); have n4_ := ak ((by rw [hg]; exact (below_size lb) : w.heap.size ≤ gb154)); have n5_ := ak ((by rw [hg]; exact (below_size lb) : w.heap.size ≤ gb154)); have n6_ := ak ((by rw [hg]; exact Nat.ne_of_lt (blk_lt (g := gb149) (o := .cells #[.int .i64 a0_0, .slice (some ad153) l0_1.length c0_1] 24 (0, 0)) (bx BK149.out)) : gb149 ≠ gb154)); have n7_ := ak ((by rw [hg]; exact Nat.ne_of_gt (blk_lt (g := gb149) (o := .cells #[.int .i64 a0_0, .slice (some ad153) l0_1.length c0_1] 24 (0, 0)) (bx BK149.out)) : gb154 ≠ gb149)); clear HO_5; clear BK149; clear HB; have HO_5 := n0_; have BK149 := n1_; have HB := n2_; have BK154 := n3_; have GW154 := n4_; have GE154 := n5_; have NB149_154 := n6_; have NB154_149 := n7_; clear n0_ n1_ n2_ n3_ n4_ n5_ n6_ n7_; clear hb hbox hg; have hnb16 := NB154_149.out; have hnc16 := NB149_154.out; have hcz17_0 : w15.cell? ⟨gb154, 0, none⟩ = some (.int .i64 0) := (blk_cell BK154.out 0).trans rfl; have hcz17_1 : w15.cell? ⟨gb154, 1, none⟩ = some (.int .i64 0) := (blk_cell BK154.out 1).trans rfl; have hcz17_2 : w15.cell? ⟨gb154, 2, none⟩ = some (.int .i64 0) := (blk_cell BK154.out 2).trans rfl; have hcz17_3 : w15.cell? ⟨gb154, 3, none⟩ = some (.int .i64 0) := (blk_cell BK154.out 3).trans rfl; have hfz17_0 := blk_frozen BK154.out 0; have hfz17_1 := blk_frozen BK154.out 1; have hfz17_2 := blk_frozen BK154.out 2; have hfz17_3 := blk_frozen BK154.out 3; have p155 : 0 ≤ (((rd_T41 l0_1 x20_1).f0) : Int) := oda; have q155 : ((rd_T41 l0_1 x20_1).f0) < (l1.length : Int) := oda; obtain ⟨ad155, e155, hx155_0⟩ := Kd.at_bool HR1.out ((rd_T41 l0_1 x20_1).f0) p155 q155; (try rw [← Nbq13.out] at hx155_0); cases e155; have hn155_0 : ad155.block ≠ gb154 := Nat.ne_of_lt (Nat.lt_of_lt_of_le (by have := World.block_lt_of_cell? _ _ hx155_0; first | rwa [add_block] at this | exact this) GW154.out); have hn155_1 : ad155.block ≠ gb154 := Nat.ne_of_lt (Nat.lt_of_lt_of_le (by have := World.block_lt_of_cell? _ _ hx155_0; first | rwa [add_block] at this | exact this) GW154.out); have hn155_2 : ad155.block ≠ gb154 := Nat.ne_of_lt (Nat.lt_of_lt_of_le (by have := World.block_lt_of_cell? _ _ hx155_0; first | rwa [add_block] at this | exact this) GW154.out); have hn155_3 : ad155.block ≠ gb154 := Nat.ne_of_lt (Nat.lt_of_lt_of_le (by have := World.block_lt_of_cell? _ _ hx155_0; first | rwa [add_block] at this | exact this) GW154.out); replace hx155_0 := (HB.out.cell (World.block_lt_of_cell? w _ hx155_0)).trans hx155_0; replace hx155_0 := (cell_far (p := ⟨gb154, 0, none⟩) (by first | (rw [add_block]; exact hn155_0) | (show (Addr.add _ _).block ≠ _; rw [add_block]; exact hn155_0) | exact hn155_0) (.int .i64 ((rd_T41 l0_1 x20_1).f0))).trans hx155_0; replace hx155_0 := (cell_far (p := ⟨gb154, 1, none⟩) (by first | (rw [add_block]; exact hn155_1) | (show (Addr.add _ _).block ≠ _; rw [add_block]; exact hn155_1) | exact hn155_1) (.int .i64 ((rd_T41 l0_1 x20_1).f1))).trans hx155_0; replace hx155_0 := (cell_far (p := ⟨gb154, 2, none⟩) (by first | (rw [add_block]; exact hn155_2) | (show (Addr.add _ _).block ≠ _; rw [add_block]; exact hn155_2) | exact hn155_2) (.int .i64 ((rd_T41 l0_1 x20_1).f2))).trans hx155_0; replace hx155_0 := (cell_far (p := ⟨gb154, 3, none⟩) (by first | (rw [add_block]; exact hn155_3) | (show (Addr.add _ _).block ≠ _; rw [add_block]; exact hn155_3) | exact hn155_3) (.int .i64 ((rd_T41 l0_1 x20_1).f3))).trans hx155_0; (try have hy155_0 := fun (n_ : Nat) => (show ((((((w15.drewN n_).setCell ⟨gb154, 0, none⟩ (.int .i64 ((rd_T41 l0_1 x20_1).f0))).setCell ⟨gb154, 1, none⟩ (.int .i64 ((rd_T41 l0_1 x20_1).f1))).setCell ⟨gb154, 2, none⟩ (.int .i64 ((rd_T41 l0_1 x20_1).f2))).setCell ⟨gb154, 3, none⟩ (.int .i64 ((rd_T41 l0_1 x20_1).f3)))).cell? _ = some _ from hx155_0)); clear hn155_0; clear hn155_1; clear hn155_2; clear hn155_3; replace p155 := eq_true p155; replace q155 := eq_true q155))
     go_roundg k1
     case measure => have := HK1.out; omega
     case rel => exact ⟨(x5_1), (wrap64 (x20_1 + 1)), (by first | rfl | (simp [*]; done)), H', ⟨by have := HK1.out; omega⟩, ⟨by exact rx (Kd.R_mono (Kd.R_far (p := ⟨gb154, 3, none⟩) (Kd.R_far (p := ⟨gb154, 2, none⟩) (Kd.R_far (p := ⟨gb154, 1, none⟩) (Kd.R_far (p := ⟨gb154, 0, none⟩) (Kd.R_types HO_5.out BK154.out (by decide)) (fun _ hk => hk.2) (.int .i64 ((rd_T41 l0_1 x20_1).f0))) (fun _ hk => hk.2) (.int .i64 ((rd_T41 l0_1 x20_1).f1))) (fun _ hk => hk.2) (.int .i64 ((rd_T41 l0_1 x20_1).f2))) (fun _ hk => hk.2) (.int .i64 ((rd_T41 l0_1 x20_1).f3))) (fun _ hk => trivial))⟩, ⟨by (with_reducible repeat (first | refine blk_drewN ?_ _ | refine blk_drew ?_ | refine blk_alloc ?_ _)); refine blk_far ?_ NB149_154.out _; (with_reducible repeat (first | refine blk_drewN ?_ _ | refine blk_drew ?_ | refine blk_alloc ?_ _)); refine blk_far ?_ NB149_154.out _; (with_reducible repeat (first | refine blk_drewN ?_ _ | refine blk_drew ?_ | refine blk_alloc ?_ _)); refine blk_far ?_ NB149_154.out _; (with_reducible repeat (first | refine blk_drewN ?_ _ | refine blk_drew ?_ | refine blk_alloc ?_ _)); refine blk_far ?_ NB149_154.out _; exact bx BK149.out⟩, ⟨lb⟩⟩
    ·
     replace c14 := Bool.eq_false_iff.mpr c14
     subst c14
     have H1 : (if 0 ≤ ((rd_T41 l0_1 x20_1).f1) then (if ((rd_T41 l0_1 x20_1).f1) < (l1.length : Int) then (if (rdOf false l1 ((rd_T41 l0_1 x20_1).f1) = true) then (walk_round.l0 k1 l1 x5_1 (-1) l0_1 (l0_1.length : Int) (wrap64 (x20_1 + 1)) a0_0 l0_1) else (if ((rd_T41 l0_1 x20_1).f1) < (x5_1.length : Int) then (walk_round.l0 k1 l1 (x5_1.set (((rd_T41 l0_1 x20_1).f1) : Int).toNat x20_1) (-1) l0_1 (l0_1.length : Int) (wrap64 (x20_1 + 1)) a0_0 l0_1) else (none))) else (none)) else (none)) = some r := by rw [if_neg (show ¬ (false = true) by decide)] at H; exact H
     clear H
     have H := H1
     clear H1
     by_cases c18 : 0 ≤ ((rd_T41 l0_1 x20_1).f1)
     rotate_left
     ·
      rw [if_neg c18] at H
      exact absurd H (by simp)
     rw [if_pos c18] at H
     have c18b0 : decide (0 ≤ ((rd_T41 l0_1 x20_1).f1)) = true := decide_eq_true c18
     clear c18
     by_cases c19 : ((rd_T41 l0_1 x20_1).f1) < (l1.length : Int)
     rotate_left
     ·
      rw [if_neg c19] at H
      exact absurd H (by simp)
     rw [if_pos c19] at H
     have c19b0 : decide (((rd_T41 l0_1 x20_1).f1) < (l1.length : Int)) = true := decide_eq_true c19
     clear c19
     obtain ⟨bq20, hbq20⟩ : ∃ b_ : Bool, b_ = (rdOf false l1 ((rd_T41 l0_1 x20_1).f1)) := ⟨_, rfl⟩
     replace H : (if (bq20 = true) then (walk_round.l0 k1 l1 x5_1 (-1) l0_1 (l0_1.length : Int) (wrap64 (x20_1 + 1)) a0_0 l0_1) else (if ((rd_T41 l0_1 x20_1).f1) < (x5_1.length : Int) then (walk_round.l0 k1 l1 (x5_1.set (((rd_T41 l0_1 x20_1).f1) : Int).toNat x20_1) (-1) l0_1 (l0_1.length : Int) (wrap64 (x20_1 + 1)) a0_0 l0_1) else (none))) = some r := by rw [← hbq20] at H; exact H
     have Nbq20 := ak hbq20
     clear hbq20
     by_cases c21 : (bq20 = true)
     ·
      subst c21
      have H1 : (walk_round.l0 k1 l1 x5_1 (-1) l0_1 (l0_1.length : Int) (wrap64 (x20_1 + 1)) a0_0 l0_1) = some r := by rw [if_pos rfl] at H; exact H
      clear H
      have H := H1
      clear H1
      have H' := ak H
      clear H
      have p153 : 0 ≤ (x20_1 : Int) := oda
      have q153 : x20_1 < (l0_1.length : Int) := oda
      obtain ⟨ad153, e153, hx153_0, hx153_1, hx153_2, hx153_3⟩ := at_T41 HR0_1.out x20_1 p153 q153
      cases e153
      (try replace hx153_0 := (HB.out.cell (World.block_lt_of_cell? w _ hx153_0)).trans hx153_0)
      (try replace hx153_1 := (HB.out.cell (World.block_lt_of_cell? w _ hx153_1)).trans hx153_1)
      (try replace hx153_2 := (HB.out.cell (World.block_lt_of_cell? w _ hx153_2)).trans hx153_2)
      (try replace hx153_3 := (HB.out.cell (World.block_lt_of_cell? w _ hx153_3)).trans hx153_3)
      replace p153 := eq_true p153
      replace q153 := eq_true q153
      go_wp2_with (first | ((with_reducible refine gate_dst (N := 8) rfl ?_); refine box_event ?hg (N := 8) ?hd (cs := #[.int .i64 0, .int .i64 0, .int .i64 0, .int .i64 0]) (t := 41) ?hr ?_; (case hd => rfl); (case hg => rfl); (case hr => first | (go_simp; done) | (go_simp; rfl)); intro gb154 hg w22 hbox hb; have n0_ := ak (Kd.R_below (rx HO_5.out) hb); have n1_ := ak (blk_below (bx BK149.out) hb); have n2_ := ak (below_step lb hb); have n3_ := ak (hbox); have n4_ := ak ((by rw [hg]; exact (below_size lb) : w.heap.size ≤ gb154)); have n5_ := ak ((by rw [hg]; exact (below_size lb) : w.heap.size ≤ gb154)); have n6_ := ak ((by rw [hg]; exact Nat.ne_of_lt (blk_lt (g := gb149) (o := .cells #[.int .i64 a0_0, .slice (some ad153) l0_1.length c0_1] 24 (0, 0)) (bx BK149.out)) : gb149 ≠ gb154)); have n7_ := ak ((by rw [hg]; exact Nat.ne_of_gt (blk_lt (g := gb149) (o := .cells #[.int .i64 a0_0, .slice (some ad153) l0_1.length c0_1] 24 (0, 0)) (bx BK149.out)) : gb154 ≠ gb149)); clear HO_5; clear BK149; clear HB; have HO_5 := n0_; have BK149 := n1_; have HB := n2_; have BK154 := n3_; have GW154 := n4_; have GE154 := n5_; have NB149_154 := n6_; have NB154_149 := n7_; clear n0_ n1_ n2_ n3_ n4_ n5_ n6_ n7_; clear hb hbox hg; have hnb23 := NB154_149.out; have hnc23 := NB149_154.out; have hcz24_0 : w22.cell? ⟨gb154, 0, none⟩ = some (.int .i64 0) := (blk_cell BK154.out 0).trans rfl; have hcz24_1 : w22.cell? ⟨gb154, 1, none⟩ = some (.int .i64 0) := (blk_cell BK154.out 1).trans rfl; have hcz24_2 : w22.cell? ⟨gb154, 2, none⟩ = some (.int .i64 0) := (blk_cell BK154.out 2).trans rfl; have hcz24_3 : w22.cell? ⟨gb154, 3, none⟩ = some (.int .i64 0) := (blk_cell BK154.out 3).trans rfl; have hfz24_0 := blk_frozen BK154.out 0; have hfz24_1 := blk_frozen BK154.out 1; have hfz24_2 := blk_frozen BK154.out 2; have hfz24_3 := blk_frozen BK154.out 3; have p155 : 0 ≤ (((rd_T41 l0_1 x20_1).f0) : Int) := oda; have q155 : ((rd_T41 l0_1 x20_1).f0) < (l1.length : Int) := oda; obtain ⟨ad155, e155, hx155_0⟩ := Kd.at_bool HR1.out ((rd_T41 l0_1 x20_1).f0) p155 q155; (try rw [← Nbq13.out] at hx155_0); (try rw [← Nbq20.out] at hx155_0); cases e155; have hn155_0 : ad155.block ≠ gb154 := Nat.ne_of_lt (Nat.lt_of_lt_of_le (by have := World.block_lt_of_cell? _ _ hx155_0; first | rwa [add_block] at this | exact this) GW154.out); have hn155_1 : ad155.block ≠ gb154 := Nat.ne_of_lt (Nat.lt_of_lt_of_le (by have := World.block_lt_of_cell? _ _ hx155_0; first | rwa [add_block] at this | exact this) GW154.out); have hn155_2 : ad155.block ≠ gb154 := Nat.ne_of_lt (Nat.lt_of_lt_of_le (by have := World.block_lt_of_cell? _ _ hx155_0; first | rwa [add_block] at this | exact this) GW154.out); have hn155_3 : ad155.block ≠ gb154 := Nat.ne_of_lt (Nat.lt_of_lt_of_le (by have := World.block_lt_of_cell? _ _ hx155_0; first | rwa [add_block] at this | exact this) GW154.out); replace hx155_0 := (HB.out.cell (World.block_lt_of_cell? w _ hx155_0)).trans hx155_0; replace hx155_0 := (cell_far (p := ⟨gb154, 0, none⟩) (by first | (rw [add_block]; exact hn155_0) | (show (Addr.add _ _).block ≠ _; rw [add_block]; exact hn155_0) | exact hn155_0) (.int .i64 ((rd_T41 l0_1 x20_1).f0))).trans hx155_0; replace hx155_0 := (cell_far (p := ⟨gb154, 1, none⟩) (by first | (rw [add_block]; exact hn155_1) | (show (Addr.add _ _).block ≠ _; rw [add_block]; exact hn155_1) | exact hn155_1) (.int .i64 ((rd_T41 l0_1 x20_1).f1))).trans hx155_0; replace hx155_0 := (cell_far (p := ⟨gb154, 2, none⟩) (by first | (rw [add_block]; exact hn155_2) | (show (Addr.add _ _).block ≠ _; rw [add_block]; exact hn155_2) | exact hn155_2) (.int .i64 ((rd_T41 l0_1 x20_1).f2))).trans hx155_0; replace hx155_0 := (cell_far (p := ⟨gb154, 3, none⟩) (by first | (rw [add_block]; exact hn155_3) | (show (Addr.add _ _).block ≠ _; rw [add_block]; exact hn155_3) | exact hn155_3) (.int .i64 ((rd_T41 l0_1 x20_1).f3))).trans hx155_0; (try have hy155_0 := fun (n_ : Nat) => (show ((((((w22.drewN n_).setCell ⟨gb154, 0, none⟩ (.int .i64 ((rd_T41 l0_1 x20_1).f0))).setCell ⟨gb154, 1, none⟩ (.int .i64 ((rd_T41 l0_1 x20_1).f1))).setCell ⟨gb154, 2, none⟩ (.int .i64 ((rd_T41 l0_1 x20_1).f2))).setCell ⟨gb154, 3, none⟩ (.int .i64 ((rd_T41 l0_1 x20_1).f3)))).cell? _ = some _ from hx155_0)); clear hn155_0; clear hn155_1; clear hn155_2; clear hn155_3; replace p155 := eq_true p155; replace q155 := eq_true q155; have p156 : 0 ≤ (((rd_T41 l0_1 x20_1).f1) : Int) := oda; have q156 : ((rd_T41 l0_1 x20_1).f1) < (l1.length : Int) := oda; obtain ⟨ad156, e156, hx156_0⟩ := Kd.at_bool HR1.out ((rd_T41 l0_1 x20_1).f1) p156 q156; (try rw [← Nbq13.out] at hx156_0); (try rw [← Nbq20.out] at hx156_0); obtain rfl : ad155 = ad156 := (by injection e156); have hn156_0 : ad155.block ≠ gb154 := Nat.ne_of_lt (Nat.lt_of_lt_of_le (by have := World.block_lt_of_cell? _ _ hx156_0; first | rwa [add_block] at this | exact this) GW154.out); have hn156_1 : ad155.block ≠ gb154 := Nat.ne_of_lt (Nat.lt_of_lt_of_le (by have := World.block_lt_of_cell? _ _ hx156_0; first | rwa [add_block] at this | exact this) GW154.out); have hn156_2 : ad155.block ≠ gb154 := Nat.ne_of_lt (Nat.lt_of_lt_of_le (by have := World.block_lt_of_cell? _ _ hx156_0; first | rwa [add_block] at this | exact this) GW154.out); have hn156_3 : ad155.block ≠ gb154 := Nat.ne_of_lt (Nat.lt_of_lt_of_le (by have := World.block_lt_of_cell? _ _ hx156_0; first | rwa [add_block] at this | exact this) GW154.out); replace hx156_0 := (HB.out.cell (World.block_lt_of_cell? w _ hx156_0)).trans hx156_0; replace hx156_0 := (cell_far (p := ⟨gb154, 0, none⟩) (by first | (rw [add_block]; exact hn156_0) | (show (Addr.add _ _).block ≠ _; rw [add_block]; exact hn156_0) | exact hn156_0) (.int .i64 ((rd_T41 l0_1 x20_1).f0))).trans hx156_0; replace hx156_0 := (cell_far (p := ⟨gb154, 1, none⟩) (by first | (rw [add_block]; exact hn156_1) | (show (Addr.add _ _).block ≠ _; rw [add_block]; exact hn156_1) | exact hn156_1) (.int .i64 ((rd_T41 l0_1 x20_1).f1))).trans hx156_0; replace hx156_0 := (cell_far (p := ⟨gb154, 2, none⟩) (by first | (rw [add_block]; exact hn156_2) | (show (Addr.add _ _).block ≠ _; rw [add_block]; exact hn156_2) | exact hn156_2) (.int .i64 ((rd_T41 l0_1 x20_1).f2))).trans hx156_0; replace hx156_0 := (cell_far (p := ⟨gb154, 3, none⟩) (by first | (rw [add_block]; exact hn156_3) | (show (Addr.add _ _).block ≠ _; rw [add_block]; exact hn156_3) | exact hn156_3) (.int .i64 ((rd_T41 l0_1 x20_1).f3))).trans hx156_0; (try have hy156_0 := fun (n_ : Nat) => (show ((((((w22.drewN n_).setCell ⟨gb154, 0, none⟩ (.int .i64 ((rd_T41 l0_1 x20_1).f0))).setCell ⟨gb154, 1, none⟩ (.int .i64 ((rd_T41 l0_1 x20_1).f1))).setCell ⟨gb154, 2, none⟩ (.int .i64 ((rd_T41 l0_1 x20_1).f2))).setCell ⟨gb154, 3, none⟩ (.int .i64 ((rd_T41 l0_1 x20_1).f3)))).cell? _ = some _ from hx156_0)); clear hn156_0; clear hn156_1; clear hn156_2; clear hn156_3; replace p156 := eq_true p156; replace q156 := eq_true q156))
      go_roundg k1
      case measure => have := HK1.out; omega
      case rel => exact ⟨(x5_1), (wrap64 (x20_1 + 1)), (by first | rfl | (simp [*]; done)), H', ⟨by have := HK1.out; omega⟩, ⟨by exact rx (Kd.R_mono (Kd.R_far (p := ⟨gb154, 3, none⟩) (Kd.R_far (p := ⟨gb154, 2, none⟩) (Kd.R_far (p := ⟨gb154, 1, none⟩) (Kd.R_far (p := ⟨gb154, 0, none⟩) (Kd.R_types HO_5.out BK154.out (by decide)) (fun _ hk => hk.2) (.int .i64 ((rd_T41 l0_1 x20_1).f0))) (fun _ hk => hk.2) (.int .i64 ((rd_T41 l0_1 x20_1).f1))) (fun _ hk => hk.2) (.int .i64 ((rd_T41 l0_1 x20_1).f2))) (fun _ hk => hk.2) (.int .i64 ((rd_T41 l0_1 x20_1).f3))) (fun _ hk => trivial))⟩, ⟨by (with_reducible repeat (first | refine blk_drewN ?_ _ | refine blk_drew ?_ | refine blk_alloc ?_ _)); refine blk_far ?_ NB149_154.out _; (with_reducible repeat (first | refine blk_drewN ?_ _ | refine blk_drew ?_ | refine blk_alloc ?_ _)); refine blk_far ?_ NB149_154.out _; (with_reducible repeat (first | refine blk_drewN ?_ _ | refine blk_drew ?_ | refine blk_alloc ?_ _)); refine blk_far ?_ NB149_154.out _; (with_reducible repeat (first | refine blk_drewN ?_ _ | refine blk_drew ?_ | refine blk_alloc ?_ _)); refine blk_far ?_ NB149_154.out _; exact bx BK149.out⟩, ⟨lb⟩⟩
     ·
      replace c21 := Bool.eq_false_iff.mpr c21
      subst c21
      have H1 : (if ((rd_T41 l0_1 x20_1).f1) < (x5_1.length : Int) then (walk_round.l0 k1 l1 (x5_1.set (((rd_T41 l0_1 x20_1).f1) : Int).toNat x20_1) (-1) l0_1 (l0_1.length : Int) (wrap64 (x20_1 + 1)) a0_0 l0_1) else (none)) = some r := by rw [if_neg (show ¬ (false = true) by decide)] at H; exact H
      clear H
      have H := H1
      clear H1
      by_cases c25 : ((rd_T41 l0_1 x20_1).f1) < (x5_1.length : Int)
      rotate_left
      ·
       rw [if_neg c25] at H
       exact absurd H (by simp)
      rw [if_pos c25] at H
      have c25b0 : decide (((rd_T41 l0_1 x20_1).f1) < (x5_1.length : Int)) = true := decide_eq_true c25
      clear c25
      obtain ⟨y157, hy157⟩ : ∃ y_ : List Int, y_ = (x5_1.set (((rd_T41 l0_1 x20_1).f1) : Int).toNat x20_1) := ⟨_, rfl⟩
      replace H : (walk_round.l0 k1 l1 y157 (-1) l0_1 (l0_1.length : Int) (wrap64 (x20_1 + 1)) a0_0 l0_1) = some r := by first | (rw [hy157]; exact H) | exact H
      have Ny157 := ak hy157
      clear hy157
      have H' := ak H
      clear H
      have p153 : 0 ≤ (x20_1 : Int) := oda
      have q153 : x20_1 < (l0_1.length : Int) := oda
      obtain ⟨ad153, e153, hx153_0, hx153_1, hx153_2, hx153_3⟩ := at_T41 HR0_1.out x20_1 p153 q153
      cases e153
      (try replace hx153_0 := (HB.out.cell (World.block_lt_of_cell? w _ hx153_0)).trans hx153_0)
      (try replace hx153_1 := (HB.out.cell (World.block_lt_of_cell? w _ hx153_1)).trans hx153_1)
      (try replace hx153_2 := (HB.out.cell (World.block_lt_of_cell? w _ hx153_2)).trans hx153_2)
      (try replace hx153_3 := (HB.out.cell (World.block_lt_of_cell? w _ hx153_3)).trans hx153_3)
      replace p153 := eq_true p153
      replace q153 := eq_true q153
      go_wp2_with (first | ((with_reducible refine gate_dst (N := 8) rfl ?_); refine box_event ?hg (N := 8) ?hd (cs := #[.int .i64 0, .int .i64 0, .int .i64 0, .int .i64 0]) (t := 41) ?hr ?_; (case hd => rfl); (case hg => rfl); (case hr => first | (go_simp; done) | (go_simp; rfl)); intro gb154 hg w27 hbox hb; have n0_ := ak (Kd.R_below (rx HO_5.out) hb); have n1_ := ak (blk_below (bx BK149.out) hb); have n2_ := ak (below_step lb hb); have n3_ := ak (hbox); have n4_ := ak ((by rw [hg]; exact (below_size lb) : w.heap.size ≤ gb154)); have n5_ := ak ((by rw [hg]; exact (below_size lb) : w.heap.size ≤ gb154)); have n6_ := ak ((by rw [hg]; exact Nat.ne_of_lt (blk_lt (g := gb149) (o := .cells #[.int .i64 a0_0, .slice (some ad153) l0_1.length c0_1] 24 (0, 0)) (bx BK149.out)) : gb149 ≠ gb154)); have n7_ := ak ((by rw [hg]; exact Nat.ne_of_gt (blk_lt (g := gb149) (o := .cells #[.int .i64 a0_0, .slice (some ad153) l0_1.length c0_1] 24 (0, 0)) (bx BK149.out)) : gb154 ≠ gb149)); clear HO_5; clear BK149; clear HB; have HO_5 := n0_; have BK149 := n1_; have HB := n2_; have BK154 := n3_; have GW154 := n4_; have GE154 := n5_; have NB149_154 := n6_; have NB154_149 := n7_; clear n0_ n1_ n2_ n3_ n4_ n5_ n6_ n7_; clear hb hbox hg; have hnb28 := NB154_149.out; have hnc28 := NB149_154.out; have hcz29_0 : w27.cell? ⟨gb154, 0, none⟩ = some (.int .i64 0) := (blk_cell BK154.out 0).trans rfl; have hcz29_1 : w27.cell? ⟨gb154, 1, none⟩ = some (.int .i64 0) := (blk_cell BK154.out 1).trans rfl; have hcz29_2 : w27.cell? ⟨gb154, 2, none⟩ = some (.int .i64 0) := (blk_cell BK154.out 2).trans rfl; have hcz29_3 : w27.cell? ⟨gb154, 3, none⟩ = some (.int .i64 0) := (blk_cell BK154.out 3).trans rfl; have hfz29_0 := blk_frozen BK154.out 0; have hfz29_1 := blk_frozen BK154.out 1; have hfz29_2 := blk_frozen BK154.out 2; have hfz29_3 := blk_frozen BK154.out 3) | ((with_reducible refine gate_store (t := 41) (p := 8) rfl ?_); (try (rw [drewN_self w27]; generalize hq_ : World.drewN w27 _ = w27; have n0_ := ak (Kd.R_at hq_ HO_5.out); have n1_ := ak (blk_at hq_ BK149.out); have n2_ := ak (blk_at hq_ BK154.out); have n3_ := ak (below_at hq_ HB.out); clear hq_ HO_5 BK149 BK154 HB; have HO_5 := n0_; have BK149 := n1_; have BK154 := n2_; have HB := n3_; clear n0_ n1_ n2_ n3_)); refine store_event (t := 41) (p := 8) (v := ?vo_w30) (w1 := ((((w27.setCell ⟨gb154, 0, none⟩ (.int .i64 ((rd_T41 l0_1 x20_1).f0))).setCell ⟨gb154, 1, none⟩ (.int .i64 ((rd_T41 l0_1 x20_1).f1))).setCell ⟨gb154, 2, none⟩ (.int .i64 ((rd_T41 l0_1 x20_1).f2))).setCell ⟨gb154, 3, none⟩ (.int .i64 ((rd_T41 l0_1 x20_1).f3)))) ?hg ?ho ?hn ?hr ?_; (case ho => rfl); (case hg => rfl); (case hn => rfl); (case hr => first | (go_simp; done) | (go_simp; rfl)); intro w30 hw; have n0_ : Aside0 (Kd.R (Kd.int .i64) 3 w30 w.heap.size (fun _ => True) v151 x5_1) := ⟨(by rw [hw]; exact (by exact rx (Kd.R_mono (Kd.R_far (p := ⟨gb154, 3, none⟩) (Kd.R_far (p := ⟨gb154, 2, none⟩) (Kd.R_far (p := ⟨gb154, 1, none⟩) (Kd.R_far (p := ⟨gb154, 0, none⟩) (Kd.R_types HO_5.out BK154.out (by decide)) (fun _ hk => hk.2) (.int .i64 ((rd_T41 l0_1 x20_1).f0))) (fun _ hk => hk.2) (.int .i64 ((rd_T41 l0_1 x20_1).f1))) (fun _ hk => hk.2) (.int .i64 ((rd_T41 l0_1 x20_1).f2))) (fun _ hk => hk.2) (.int .i64 ((rd_T41 l0_1 x20_1).f3))) (fun _ hk => trivial))))⟩; have n1_ : Aside0 (w30.heap[gb149]? = some (.cells #[.int .i64 a0_0, .slice (some ad153) l0_1.length c0_1] 24 (0, 0))) := ⟨(by rw [hw]; exact (by (with_reducible repeat (first | refine blk_drewN ?_ _ | refine blk_drew ?_ | refine blk_alloc ?_ _)); refine blk_far ?_ NB149_154.out _; (with_reducible repeat (first | refine blk_drewN ?_ _ | refine blk_drew ?_ | refine blk_alloc ?_ _)); refine blk_far ?_ NB149_154.out _; (with_reducible repeat (first | refine blk_drewN ?_ _ | refine blk_drew ?_ | refine blk_alloc ?_ _)); refine blk_far ?_ NB149_154.out _; (with_reducible repeat (first | refine blk_drewN ?_ _ | refine blk_drew ?_ | refine blk_alloc ?_ _)); refine blk_far ?_ NB149_154.out _; exact bx BK149.out))⟩; have n2_ : Aside0 (w30.heap[gb154]? = some (.cells #[.int .i64 ((rd_T41 l0_1 x20_1).f0), .int .i64 ((rd_T41 l0_1 x20_1).f1), .int .i64 ((rd_T41 l0_1 x20_1).f2), .int .i64 ((rd_T41 l0_1 x20_1).f3)] 41 (0, 0))) := ⟨(by rw [hw]; exact (by (with_reducible repeat (first | refine blk_drewN ?_ _ | refine blk_drew ?_ | refine blk_alloc ?_ _)); refine blk_put (cs := #[.int .i64 ((rd_T41 l0_1 x20_1).f0), .int .i64 ((rd_T41 l0_1 x20_1).f1), .int .i64 ((rd_T41 l0_1 x20_1).f2), .int .i64 0]) ?_ 3 _ rfl; (with_reducible repeat (first | refine blk_drewN ?_ _ | refine blk_drew ?_ | refine blk_alloc ?_ _)); refine blk_put (cs := #[.int .i64 ((rd_T41 l0_1 x20_1).f0), .int .i64 ((rd_T41 l0_1 x20_1).f1), .int .i64 0, .int .i64 0]) ?_ 2 _ rfl; (with_reducible repeat (first | refine blk_drewN ?_ _ | refine blk_drew ?_ | refine blk_alloc ?_ _)); refine blk_put (cs := #[.int .i64 ((rd_T41 l0_1 x20_1).f0), .int .i64 0, .int .i64 0, .int .i64 0]) ?_ 1 _ rfl; (with_reducible repeat (first | refine blk_drewN ?_ _ | refine blk_drew ?_ | refine blk_alloc ?_ _)); refine blk_put (cs := #[.int .i64 0, .int .i64 0, .int .i64 0, .int .i64 0]) ?_ 0 _ rfl; exact bx BK154.out))⟩; have n3_ : Aside0 (Below w.heap.size w w30) := ⟨(by rw [hw]; exact lb)⟩; clear hw; clear HO_5; clear BK149; clear BK154; clear HB; have HO_5 := n0_; have BK149 := n1_; have BK154 := n2_; have HB := n3_; clear n0_ n1_ n2_ n3_; have hcz31_0 : w30.cell? ⟨gb154, 0, none⟩ = some (.int .i64 ((rd_T41 l0_1 x20_1).f0)) := (blk_cell BK154.out 0).trans rfl; have hcz31_1 : w30.cell? ⟨gb154, 1, none⟩ = some (.int .i64 ((rd_T41 l0_1 x20_1).f1)) := (blk_cell BK154.out 1).trans rfl; have hcz31_2 : w30.cell? ⟨gb154, 2, none⟩ = some (.int .i64 ((rd_T41 l0_1 x20_1).f2)) := (blk_cell BK154.out 2).trans rfl; have hcz31_3 : w30.cell? ⟨gb154, 3, none⟩ = some (.int .i64 ((rd_T41 l0_1 x20_1).f3)) := (blk_cell BK154.out 3).trans rfl; have hfz31_0 := blk_frozen BK154.out 0; have hfz31_1 := blk_frozen BK154.out 1; have hfz31_2 := blk_frozen BK154.out 2; have hfz31_3 := blk_frozen BK154.out 3; have p155 : 0 ≤ (((rd_T41 l0_1 x20_1).f0) : Int) := oda; have q155 : ((rd_T41 l0_1 x20_1).f0) < (l1.length : Int) := oda; obtain ⟨ad155, e155, hx155_0⟩ := Kd.at_bool HR1.out ((rd_T41 l0_1 x20_1).f0) p155 q155; (try rw [← Nbq13.out] at hx155_0); (try rw [← Nbq20.out] at hx155_0); cases e155; replace hx155_0 := (HB.out.cell (World.block_lt_of_cell? w _ hx155_0)).trans hx155_0; replace p155 := eq_true p155; replace q155 := eq_true q155; have p156 : 0 ≤ (((rd_T41 l0_1 x20_1).f1) : Int) := oda; have q156 : ((rd_T41 l0_1 x20_1).f1) < (l1.length : Int) := oda; obtain ⟨ad156, e156, hx156_0⟩ := Kd.at_bool HR1.out ((rd_T41 l0_1 x20_1).f1) p156 q156; (try rw [← Nbq13.out] at hx156_0); (try rw [← Nbq20.out] at hx156_0); obtain rfl : ad155 = ad156 := (by injection e156); replace hx156_0 := (HB.out.cell (World.block_lt_of_cell? w _ hx156_0)).trans hx156_0; replace p156 := eq_true p156; replace q156 := eq_true q156; have p26 : 0 ≤ (((rd_T41 l0_1 x20_1).f1) : Int) := oda; have q26 : (((rd_T41 l0_1 x20_1).f1) : Int) < ((x5_1.length : Int) : Int) := oda; obtain ⟨go26, co26, eo26, gb26, gl26, cl26, HG26⟩ := Kd.R_form HO_5.out (by omega); (first | cases eo26 | (injection eo26 with ea_ en_ ec_; (first | subst ea_ | (injection ea_ with ea_; subst ea_)); subst ec_; clear en_)); have GB26 := ak gb26; have GG26 := ak HG26; clear gb26 gl26 HG26; obtain ⟨hx26_0, hf26_0⟩ := Kd.R_celln 0 HO_5.out (((rd_T41 l0_1 x20_1).f1) : Int) p26 q26; replace p26 := eq_true p26; replace q26 := eq_true q26; obtain ⟨hy32_, hz32_⟩ := Kd.R_celln 0 HO_5.out (((rd_T41 l0_1 x20_1).f1) : Int) (oda) (oda); have HP32 := Kd.R_putg HO_5.out (((rd_T41 l0_1 x20_1).f1) : Int) x20_1) | ((with_reducible refine gate_store (t := 3) (p := 43) rfl ?_); (try (rw [drewN_self w30]; generalize hq_ : World.drewN w30 _ = w30; have n0_ := ak (Kd.R_at hq_ HO_5.out); have n1_ := ak (blk_at hq_ BK149.out); have n2_ := ak (blk_at hq_ BK154.out); have n3_ := ak (below_at hq_ HB.out); clear hq_ HO_5 BK149 BK154 HB; have HO_5 := n0_; have BK149 := n1_; have BK154 := n2_; have HB := n3_; clear n0_ n1_ n2_ n3_; (try (obtain ⟨hy32_, hz32_⟩ := Kd.R_celln 0 HO_5.out (((rd_T41 l0_1 x20_1).f1) : Int) (oda) (oda))); (try (have HP32 := Kd.R_putg HO_5.out (((rd_T41 l0_1 x20_1).f1) : Int) x20_1)))); refine store_event (t := 3) (p := 43) (v := ?vo_w33) (w1 := (w30.setCell ⟨go26, (((rd_T41 l0_1 x20_1).f1) : Int).toNat, none⟩ (.int .i64 x20_1))) ?hg ?ho ?hn ?hr ?_; (case ho => rfl); (case hg => rfl); (case hn => rfl); (case hr => first | (go_simp; done) | (go_simp; rfl)); intro w33 hw; have hg : w30.grownBy w33 (some go26) := (by rw [hw]; exact HP32.2); have hp_ : Kd.R (Kd.int .i64) 3 w33 w.heap.size (fun _ => True) (.slice (some ⟨go26, 0, none⟩) x5_1.length co26) y157 := (by rw [hw, Ny157.out]; exact HP32.1); clear HP32; have n0_ := ak (hp_); have n1_ := ak (blk_grown (bx BK149.out) hg (Kd.R_ne HO_5.out BK149.out (by decide))); have n2_ := ak (blk_grown (bx BK154.out) hg (Kd.R_ne HO_5.out BK154.out (by decide))); have n3_ := ak ((by rw [hw]; exact below_set (HB.out) GB26.out : Below w.heap.size w w33)); clear HO_5; clear BK149; clear BK154; clear HB; have HO_5 := n0_; have BK149 := n1_; have BK154 := n2_; have HB := n3_; clear n0_ n1_ n2_ n3_; clear hg hw hp_))
      go_roundg k1
      case measure => have := HK1.out; omega
      case rel => exact ⟨(y157), (wrap64 (x20_1 + 1)), (by first | rfl | (simp [*]; done)), H', ⟨by have := HK1.out; omega⟩, ⟨rx HO_5.out⟩, ⟨bx BK149.out⟩, ⟨lb⟩⟩
   ·
    rw [if_neg c8] at H
    have c8b0 : decide (x20_1 < (l0_1.length : Int)) = false := decide_eq_false c8
    clear c8
    have H' := ak H
    clear H
    have hcz34_0 : wr.cell? ⟨gb149, 0, none⟩ = some (.int .i64 a0_0) := (blk_cell BK149.out 0).trans rfl
    have hcz34_1 : wr.cell? ⟨gb149, 1, none⟩ = some (.slice A0_1 l0_1.length c0_1) := (blk_cell BK149.out 1).trans rfl
    have hfz34_0 := blk_frozen BK149.out 0
    have hfz34_1 := blk_frozen BK149.out 1
    go_wp2
    repeat (go_quiet (fail); try go_wp2)
    go_loopg [6, 47] k1 (fun kq v6 v47 w' => ∃ (x6_2 : Int) (x47_2 : Int), v6 = .int .i64 x6_2 ∧ v47 = .int .i64 x47_2 ∧ Aside0 (walk_round.l1 kq l1 x5_1 x6_2 a0_0 x47_2 a0_0 l0_1 = some r) ∧ Aside0 (kq ≤ k1) ∧ Aside0 (Kd.R (Kd.int .i64) 3 w' w.heap.size (fun _ => True) v151 x5_1) ∧ Aside0 (w'.heap[gb149]? = some (.cells #[.int .i64 a0_0, (.slice A0_1 l0_1.length c0_1)] 24 (0, 0))) ∧ Aside0 (Below w.heap.size w w'))
    case atStart => exact ⟨((-1)), (0), (by first | rfl | (simp [*]; done)), (by first | rfl | (simp [*]; done)), H', ⟨Nat.le_refl _⟩, ⟨rx HO_5.out⟩, ⟨bx BK149.out⟩, ⟨lb⟩⟩
    case round =>
     clear H'
     try clear c1; try clear p1; try clear q1; try clear hx1; try clear c2; try clear p2; try clear q2; try clear hx2; try clear hf2; try clear c3; try clear p6; try clear c8; try clear c8b0; try clear c9; try clear c9b0; try clear c10; try clear c10b0; try clear c11; try clear c11b0; try clear c12; try clear c12b0; try clear q13; try clear c14; try clear p15; try clear q15; try clear hx15; try clear c16; try clear c18; try clear c18b0; try clear c19; try clear c19b0; try clear q20; try clear c21; try clear c23; try clear c25; try clear c25b0; try clear p26; try clear q26; try clear hx26; try clear hf26; try clear c28; try clear c33; try clear hcz17_0; try clear hcz17_1; try clear hcz17_2; try clear hcz17_3; try clear hcz24_0; try clear hcz24_1; try clear hcz24_2; try clear hcz24_3; try clear hcz29_0; try clear hcz29_1; try clear hcz29_2; try clear hcz29_3; try clear hcz31_0; try clear hcz31_1; try clear hcz31_2; try clear hcz31_3; try clear hcz34_0; try clear hcz34_1; try clear hcz5_0; try clear hcz5_1; try clear hcz7_0; try clear hcz7_1; try clear hfz17_0; try clear hfz17_1; try clear hfz17_2; try clear hfz17_3; try clear hfz24_0; try clear hfz24_1; try clear hfz24_2; try clear hfz24_3; try clear hfz29_0; try clear hfz29_1; try clear hfz29_2; try clear hfz29_3; try clear hfz31_0; try clear hfz31_1; try clear hfz31_2; try clear hfz31_3; try clear hfz34_0; try clear hfz34_1; try clear hfz5_0; try clear hfz5_1; try clear hfz7_0; try clear hfz7_1; try clear hx153_0; try clear hx153_1; try clear hx153_2; try clear hx153_3; try clear hx155_0; try clear hx156_0; try clear hx26_0; try clear p153; try clear p155; try clear p156; try clear p2; try clear p26; try clear q153; try clear q155; try clear q156; try clear q26
     obtain ⟨x6_2, x47_2, rfl, rfl, HA, HK2, HO_5, BK149, HB⟩ := hrel
     cases gk with
     | zero => exact absurd HA.out (by simp [walk_round.l1])
     | succ k2 =>
      have H := HA.out
      clear HA
      simp only [walk_round.l1] at H
      by_cases c35 : x47_2 < a0_0
      ·
       rw [if_pos c35] at H
       have c35b0 : decide (x47_2 < a0_0) = true := decide_eq_true c35
       clear c35
       by_cases c36 : 0 ≤ x47_2
       rotate_left
       ·
        rw [if_neg c36] at H
        exact absurd H (by simp)
       rw [if_pos c36] at H
       have c36b0 : decide (0 ≤ x47_2) = true := decide_eq_true c36
       clear c36
       by_cases c37 : x47_2 < (l1.length : Int)
       rotate_left
       ·
        rw [if_neg c37] at H
        exact absurd H (by simp)
       rw [if_pos c37] at H
       have c37b0 : decide (x47_2 < (l1.length : Int)) = true := decide_eq_true c37
       clear c37
       obtain ⟨bq38, hbq38⟩ : ∃ b_ : Bool, b_ = (rdOf false l1 x47_2) := ⟨_, rfl⟩
       replace H : (if bq38 = true then (walk_round.l1 k2 l1 x5_1 x6_2 a0_0 (wrap64 (x47_2 + 1)) a0_0 l0_1) else (walk_round.l1 k2 l1 x5_1 x47_2 a0_0 (wrap64 (x47_2 + 1)) a0_0 l0_1)) = some r := by rw [← hbq38] at H; exact H
       have Nbq38 := ak hbq38
       clear hbq38
       by_cases c39 : bq38 = true
       ·
        subst c39
        have H1 : (walk_round.l1 k2 l1 x5_1 x6_2 a0_0 (wrap64 (x47_2 + 1)) a0_0 l0_1) = some r := by rw [if_pos rfl] at H; exact H
        clear H
        have H := H1
        clear H1
        have H' := ak H
        clear H
        have p158 : 0 ≤ (x47_2 : Int) := oda
        have q158 : x47_2 < (l1.length : Int) := oda
        obtain ⟨ad158, e158, hx158_0⟩ := Kd.at_bool HR1.out x47_2 p158 q158
        (try rw [← Nbq38.out] at hx158_0)
        cases e158
        (try replace hx158_0 := (HB.out.cell (World.block_lt_of_cell? w _ hx158_0)).trans hx158_0)
        replace p158 := eq_true p158
        replace q158 := eq_true q158
        go_wp2
        repeat (go_quiet (fail); try go_wp2)
        go_roundg k2
        case measure => have := HK1.out; have := HK2.out; omega
        case rel => exact ⟨(x6_2), (wrap64 (x47_2 + 1)), (by first | rfl | (simp [*]; done)), (by first | rfl | (simp [*]; done)), H', ⟨by have := HK1.out; have := HK2.out; omega⟩, ⟨rx HO_5.out⟩, ⟨bx BK149.out⟩, ⟨lb⟩⟩
       ·
        replace c39 := Bool.eq_false_iff.mpr c39
        subst c39
        have H1 : (walk_round.l1 k2 l1 x5_1 x47_2 a0_0 (wrap64 (x47_2 + 1)) a0_0 l0_1) = some r := by rw [if_neg (show ¬ (false = true) by decide)] at H; exact H
        clear H
        have H := H1
        clear H1
        have H' := ak H
        clear H
        have p158 : 0 ≤ (x47_2 : Int) := oda
        have q158 : x47_2 < (l1.length : Int) := oda
        obtain ⟨ad158, e158, hx158_0⟩ := Kd.at_bool HR1.out x47_2 p158 q158
        (try rw [← Nbq38.out] at hx158_0)
        cases e158
        (try replace hx158_0 := (HB.out.cell (World.block_lt_of_cell? w _ hx158_0)).trans hx158_0)
        replace p158 := eq_true p158
        replace q158 := eq_true q158
        go_wp2
        repeat (go_quiet (fail); try go_wp2)
        go_roundg k2
        case measure => have := HK1.out; have := HK2.out; omega
        case rel => exact ⟨(x47_2), (wrap64 (x47_2 + 1)), (by first | rfl | (simp [*]; done)), (by first | rfl | (simp [*]; done)), H', ⟨by have := HK1.out; have := HK2.out; omega⟩, ⟨rx HO_5.out⟩, ⟨bx BK149.out⟩, ⟨lb⟩⟩
      ·
       rw [if_neg c35] at H
       have c35b0 : decide (x47_2 < a0_0) = false := decide_eq_false c35
       clear c35
       replace H := Option.bind_eq_some_iff.mp H
       obtain ⟨t159, A400, H⟩ := H
       replace H : (walk_round.l2 k2 x5_1 x6_2 t159 ([] : List Int) a0_0 l0_1) = some r := H
       have A40 := ak A400
       clear A400
       have H' := ak H
       clear H
       have hcz41_0 : wr.cell? ⟨gb149, 0, none⟩ = some (.int .i64 a0_0) := (blk_cell BK149.out 0).trans rfl
       have hcz41_1 : wr.cell? ⟨gb149, 1, none⟩ = some (.slice A0_1 l0_1.length c0_1) := (blk_cell BK149.out 1).trans rfl
       have hfz41_0 := blk_frozen BK149.out 0
       have hfz41_1 := blk_frozen BK149.out 1
       go_wp2_with (first | (go_at_call 31; (with_reducible refine (walk_filled.calls k2 a0_0 (-1) t159 _ A40.out).mono ?_); rintro e w42 ⟨v160, rfl, ho0, hb⟩; have n0_ := ak (Kd.R_elder' (rx HO_5.out) (Kd.R_base ho0) hb); have n1_ := ak (Kd.R_lower (Kd.R_new' ho0 (Kd.R_lt (rx HO_5.out))) (below_size lb)); have n2_ := ak (blk_below (bx BK149.out) hb); have n3_ := ak (below_step lb hb); clear HO_5; clear BK149; clear HB; have HO_5 := n0_; have HO161 := n1_; have BK149 := n2_; have HB := n3_; clear n0_ n1_ n2_ n3_; (try clear hb); (try clear hb2); (try clear hk); (try clear hi); (try clear ho0)))
       go_loopg [6, 11] k2 (fun kq v6 v11 w' => ∃ (x6_3 : Int) (x10_3 : List Int) (x11_3 : List Int), v6 = .int .i64 x6_3 ∧ Aside0 (walk_round.l2 kq x5_1 x6_3 x10_3 x11_3 a0_0 l0_1 = some r) ∧ Aside0 (kq ≤ k2) ∧ Aside0 (Kd.R (Kd.int .i64) 3 w' w.heap.size (fun k_ => some k_ ≠ (v160 : Value).ownBlock ∧ some k_ ≠ (v11 : Value).ownBlock) v151 x5_1) ∧ Aside0 (Kd.R (Kd.int .i64) 3 w' w.heap.size (fun k_ => some k_ ≠ (v151 : Value).ownBlock ∧ some k_ ≠ (v11 : Value).ownBlock) v160 x10_3) ∧ Aside0 (Kd.R (Kd.int .i64) 3 w' w.heap.size (fun k_ => some k_ ≠ (v151 : Value).ownBlock ∧ some k_ ≠ (v160 : Value).ownBlock) v11 x11_3) ∧ Aside0 (w'.heap[gb149]? = some (.cells #[.int .i64 a0_0, (.slice A0_1 l0_1.length c0_1)] 24 (0, 0))) ∧ Aside0 (Below w.heap.size w w'))
       case atStart => exact ⟨(x6_2), (t159), (([] : List Int)), (by first | rfl | (simp [*]; done)), H', ⟨Nat.le_refl _⟩, ⟨by exact rx (Kd.R_mono HO_5.out (fun _ hk => ⟨hk.2, (by simp [Value.ownBlock])⟩))⟩, ⟨by exact rx (Kd.R_mono HO161.out (fun _ hk => ⟨hk.2, (by simp [Value.ownBlock])⟩))⟩, ⟨by first | exact Kd.R_nil _ _ _ _ _ | exact Kd.N_nil _ _ _ _ _ | exact Kd.V_nil _ _ _ _ _ | exact Kd.Q_nil _ _ _ _ _ | exact Kd.S_nil _ _ _ _ _⟩, ⟨bx BK149.out⟩, ⟨lb⟩⟩
       case round =>
        clear H'
        try clear c1; try clear p1; try clear q1; try clear hx1; try clear c2; try clear p2; try clear q2; try clear hx2; try clear hf2; try clear c3; try clear q3; try clear p6; try clear c8; try clear c8b0; try clear c9; try clear c9b0; try clear c10; try clear c10b0; try clear c11; try clear c11b0; try clear c12; try clear c12b0; try clear q13; try clear c14; try clear p15; try clear q15; try clear hx15; try clear c16; try clear c18; try clear c18b0; try clear c19; try clear c19b0; try clear q20; try clear c21; try clear c23; try clear c25; try clear c25b0; try clear p26; try clear q26; try clear hx26; try clear hf26; try clear c28; try clear c33; try clear c35; try clear c35b0; try clear c36; try clear c36b0; try clear c37; try clear c37b0; try clear q38; try clear c39; try clear hcz17_0; try clear hcz17_1; try clear hcz17_2; try clear hcz17_3; try clear hcz24_0; try clear hcz24_1; try clear hcz24_2; try clear hcz24_3; try clear hcz29_0; try clear hcz29_1; try clear hcz29_2; try clear hcz29_3; try clear hcz31_0; try clear hcz31_1; try clear hcz31_2; try clear hcz31_3; try clear hcz34_0; try clear hcz34_1; try clear hcz41_0; try clear hcz41_1; try clear hcz5_0; try clear hcz5_1; try clear hcz7_0; try clear hcz7_1; try clear hfz17_0; try clear hfz17_1; try clear hfz17_2; try clear hfz17_3; try clear hfz24_0; try clear hfz24_1; try clear hfz24_2; try clear hfz24_3; try clear hfz29_0; try clear hfz29_1; try clear hfz29_2; try clear hfz29_3; try clear hfz31_0; try clear hfz31_1; try clear hfz31_2; try clear hfz31_3; try clear hfz34_0; try clear hfz34_1; try clear hfz41_0; try clear hfz41_1; try clear hfz5_0; try clear hfz5_1; try clear hfz7_0; try clear hfz7_1; try clear hx153_0; try clear hx153_1; try clear hx153_2; try clear hx153_3; try clear hx155_0; try clear hx156_0; try clear hx158_0; try clear hx26_0; try clear p1; try clear p15; try clear p153; try clear p155; try clear p156; try clear p158; try clear p2; try clear p26; try clear p6; try clear q1; try clear q13; try clear q15; try clear q153; try clear q155; try clear q156; try clear q158; try clear q2; try clear q20; try clear q26
        obtain ⟨x6_3, x10_3, x11_3, rfl, HA, HK3, HO_5, HO_10, HO_11, BK149, HB⟩ := hrel
        cases gk with
        | zero => exact absurd HA.out (by simp [walk_round.l2])
        | succ k3 =>
         have H := HA.out
         clear HA
         simp only [walk_round.l2] at H
         by_cases c43 : 0 ≤ x6_3
         rotate_left
         ·
          rw [if_neg c43] at H
          exact absurd H (by simp)

         rw [if_pos c43] at H
         have c43b0 : decide (0 ≤ x6_3) = true := decide_eq_true c43
         clear c43
         by_cases c44 : x6_3 < (x10_3.length : Int)
         rotate_left
         ·
          rw [if_neg c44] at H
          exact absurd H (by simp)
         rw [if_pos c44] at H
         have c44b0 : decide (x6_3 < (x10_3.length : Int)) = true := decide_eq_true c44
         clear c44
         by_cases c45 : (rd x10_3 x6_3) < 0
         ·
          rw [if_pos c45] at H
          have c45b0 : decide ((rd x10_3 x6_3) < 0) = true := decide_eq_true c45
          clear c45
          obtain ⟨y163, hy163⟩ : ∃ y_ : List Int, y_ = (x10_3.set (x6_3 : Int).toNat (x11_3.length : Int)) := ⟨_, rfl⟩
          replace H : (if x6_3 < (x5_1.length : Int) then (if x11_3.length < 17592186044416 then (if 0 ≤ (rd x5_1 x6_3) then (if (rd x5_1 x6_3) < (l0_1.length : Int) then (walk_round.l2 k3 x5_1 ((rd_T41 l0_1 (rd x5_1 x6_3)).f0) y163 (x11_3 ++ [rd x5_1 x6_3]) a0_0 l0_1) else (none)) else (none)) else (none)) else (none)) = some r := by first | (rw [hy163]; exact H) | exact H
          have Ny163 := ak hy163
          clear hy163
          by_cases c47 : x6_3 < (x5_1.length : Int)
          rotate_left
          ·
           rw [if_neg c47] at H
           exact absurd H (by simp)
          rw [if_pos c47] at H
          have c47b0 : decide (x6_3 < (x5_1.length : Int)) = true := decide_eq_true c47
          clear c47
          by_cases c48 : x11_3.length < 17592186044416
          rotate_left
          ·
           rw [if_neg c48] at H
           exact absurd H (by simp)
          rw [if_pos c48] at H
          have LMc48 := ak c48
          clear c48
          obtain ⟨y165, hy165⟩ : ∃ y_ : List Int, y_ = (x11_3 ++ [rd x5_1 x6_3]) := ⟨_, rfl⟩
          replace H : (if 0 ≤ (rd x5_1 x6_3) then (if (rd x5_1 x6_3) < (l0_1.length : Int) then (walk_round.l2 k3 x5_1 ((rd_T41 l0_1 (rd x5_1 x6_3)).f0) y163 y165 a0_0 l0_1) else (none)) else (none)) = some r := by first | (rw [hy165]; exact H) | exact H
          have Ny165 := ak hy165
          clear hy165
          by_cases c49 : 0 ≤ (rd x5_1 x6_3)
          rotate_left
          ·
           rw [if_neg c49] at H
           exact absurd H (by simp)
          rw [if_pos c49] at H
          have c49b0 : decide (0 ≤ (rd x5_1 x6_3)) = true := decide_eq_true c49
          clear c49
          by_cases c50 : (rd x5_1 x6_3) < (l0_1.length : Int)
          rotate_left
          ·
           rw [if_neg c50] at H
           exact absurd H (by simp)
          rw [if_pos c50] at H
          have c50b0 : decide ((rd x5_1 x6_3) < (l0_1.length : Int)) = true := decide_eq_true c50
          clear c50
          have H' := ak H
          clear H
          obtain ⟨Ao51, co51, eo51⟩ := Kd.R_slice HO_10.out
          subst eo51
          have p162 : 0 ≤ (x6_3 : Int) := oda
          have q162 : x6_3 < (x10_3.length : Int) := oda
          obtain ⟨ad162, e162, hx162_0⟩ := Kd.at_int (Kd.R_reads' HO_10.out).2.2 x6_3 p162 q162
          cases e162
          replace p162 := eq_true p162
          replace q162 := eq_true q162
          obtain ⟨Ao52, co52, eo52⟩ := Kd.R_slice HO_11.out
          subst eo52
          have p46 : 0 ≤ (x6_3 : Int) := oda
          have q46 : (x6_3 : Int) < ((x10_3.length : Int) : Int) := oda
          obtain ⟨go46, co46, eo46, gb46, gl46, cl46, HG46⟩ := Kd.R_form HO_10.out (by omega)
          (first | cases eo46 | (injection eo46 with ea_ en_ ec_; (first | subst ea_ | (injection ea_ with ea_; subst ea_)); subst ec_; clear en_))
          have GB46 := ak gb46
          have GG46 := ak HG46
          clear gb46 gl46 HG46
          (first | simp only [add_plain] at hx162_0 | skip)
          obtain ⟨hx46_0, hf46_0⟩ := Kd.R_celln 0 HO_10.out (x6_3 : Int) p46 q46
          replace p46 := eq_true p46
          replace q46 := eq_true q46
          have HP53 := Kd.R_putg HO_10.out (x6_3 : Int) (x11_3.length : Int)
          go_wp2_with (first | ((with_reducible refine gate_store (t := 3) (p := 69) rfl ?_); (try (rw [drewN_self wr]; generalize hq_ : World.drewN wr _ = wr; have n0_ := ak (Kd.R_at hq_ HO_5.out); have n1_ := ak (Kd.R_at hq_ HO_10.out); have n2_ := ak (Kd.R_at hq_ HO_11.out); have n3_ := ak (blk_at hq_ BK149.out); have n4_ := ak (below_at hq_ HB.out); clear hq_ HO_5 HO_10 HO_11 BK149 HB; have HO_5 := n0_; have HO_10 := n1_; have HO_11 := n2_; have BK149 := n3_; have HB := n4_; clear n0_ n1_ n2_ n3_ n4_; (try (have HP53 := Kd.R_putg HO_10.out (x6_3 : Int) (x11_3.length : Int))))); refine store_event (t := 3) (p := 69) (v := ?vo_w54) (w1 := (wr.setCell ⟨go46, (x6_3 : Int).toNat, none⟩ (.int .i64 (x11_3.length : Int)))) ?hg ?ho ?hn ?hr ?_; (case ho => rfl); (case hg => rfl); (case hn => rfl); (case hr => first | (go_simp; done) | (go_simp; rfl)); intro w54 hw; have hg : wr.grownBy w54 (some go46) := (by rw [hw]; exact HP53.2); have hp_ : Kd.R (Kd.int .i64) 3 w54 w.heap.size (fun k_ => some k_ ≠ (v151 : Value).ownBlock ∧ some k_ ≠ (.slice Ao52 x11_3.length co52 : Value).ownBlock) (.slice (some ⟨go46, 0, none⟩) x10_3.length co51) y163 := (by rw [hw, Ny163.out]; exact HP53.1); clear HP53; have n0_ := ak (Kd.R_after (v := (.slice (some ⟨go46, 0, none⟩) x10_3.length co51)) (v1 := (.slice (some ⟨go46, 0, none⟩) x10_3.length co51)) (ok := (fun k_ => some k_ ≠ (.slice Ao52 x11_3.length co52 : Value).ownBlock)) (by exact rx (Kd.R_mono HO_5.out (fun _ hk => ⟨hk.2, hk.1⟩))) hg (.inl rfl)); have n1_ := ak (hp_); have n2_ := ak (Kd.R_after (v := (.slice (some ⟨go46, 0, none⟩) x10_3.length co51)) (v1 := (.slice (some ⟨go46, 0, none⟩) x10_3.length co51)) (ok := (fun k_ => some k_ ≠ (v151 : Value).ownBlock)) (rx HO_11.out) hg (.inl rfl)); have n3_ := ak (blk_grown (bx BK149.out) hg (Kd.R_ne HO_10.out BK149.out (by decide))); have n4_ := ak ((by rw [hw]; exact below_set (HB.out) GB46.out : Below w.heap.size w w54)); clear HO_5; clear HO_10; clear HO_11; clear BK149; clear HB; have HO_5 := n0_; have HO_10 := n1_; have HO_11 := n2_; have BK149 := n3_; have HB := n4_; clear n0_ n1_ n2_ n3_ n4_; clear hg hw hp_; obtain ⟨Ao55, co55, eo55⟩ := Kd.R_slice HO_5.out; subst eo55; have p164 : 0 ≤ (x6_3 : Int) := oda; have q164 : x6_3 < (x5_1.length : Int) := oda; obtain ⟨ad164, e164, hx164_0⟩ := Kd.at_int (Kd.R_reads' HO_5.out).2.2 x6_3 p164 q164; cases e164; replace p164 := eq_true p164; replace q164 := eq_true q164) | ((with_reducible refine gate_builtin (b := .append) (xs := #[.tmp 70, .tmp 75]) rfl ?_); at_builtin; refine Kd.R_append (Kd.int .i64) (w0 := w) w.heap.size rfl (.tmp 70) (.tmp 75) 26 3 (.int .i64 0) 8 rfl Try.underlying26 info3 rfl (by decide) (by omega) (.slice Ao52 x11_3.length co52) x11_3 (rd x5_1 x6_3) [.int .i64 (rd x5_1 x6_3)] (fun k_ => some k_ ≠ (.slice (some ad164) x5_1.length co55 : Value).ownBlock ∧ some k_ ≠ (.slice (some ⟨go46, 0, none⟩) x10_3.length co51 : Value).ownBlock) (fun _ => False) rfl rfl ?aP (fun _ hk => hk.elim) ?aF ?aO ?aB ?aS ?aL ?_; (case aP => exact rfl); (case aB => exact lb); (case aF => exact (fun k_ hk => ⟨Kd.fresh' (Kd.R_lt (rx HO_5.out)) k_ hk, Kd.fresh' (Kd.R_lt (rx HO_10.out)) k_ hk⟩)); (case aO => exact (rx HO_11.out)); (case aS => exact (below_size lb)); (case aL => have := LMc48.out; omega); intro v166 w56 ho hb hg hat; rw [← Ny165.out] at ho; have n0_ := ak (Kd.R_after (ok := (fun k_ => some k_ ≠ (.slice (some ⟨go46, 0, none⟩) x10_3.length co51 : Value).ownBlock)) (by exact rx (Kd.R_mono HO_5.out (fun _ hk => ⟨hk.2, hk.1⟩))) hg hat); have n1_ := ak (Kd.R_after (ok := (fun k_ => some k_ ≠ (.slice (some ad164) x5_1.length co55 : Value).ownBlock)) (rx HO_10.out) hg hat); have n2_ := ak (blk_grown (bx BK149.out) hg (Kd.R_ne HO_11.out BK149.out (by decide))); have n3_ := ak (hb); have n4_ := ak (ho); clear HO_5; clear HO_10; clear BK149; clear HB; clear HO_11; have HO_5 := n0_; have HO_10 := n1_; have BK149 := n2_; have HB := n3_; have HO167 := n4_; clear n0_ n1_ n2_ n3_ n4_; clear ho hb hg hat; have hcz57_0 : w56.cell? ⟨gb149, 0, none⟩ = some (.int .i64 a0_0) := (blk_cell BK149.out 0).trans rfl; have hcz57_1 : w56.cell? ⟨gb149, 1, none⟩ = some (.slice A0_1 l0_1.length c0_1) := (blk_cell BK149.out 1).trans rfl; have hfz57_0 := blk_frozen BK149.out 0; have hfz57_1 := blk_frozen BK149.out 1; have p168 : 0 ≤ (x6_3 : Int) := oda; have q168 : x6_3 < (x5_1.length : Int) := oda; obtain ⟨ad168, e168, hx168_0⟩ := Kd.at_int (Kd.R_reads' HO_5.out).2.2 x6_3 p168 q168; obtain rfl : ad164 = ad168 := (by injection e168); replace p168 := eq_true p168; replace q168 := eq_true q168; have p169 : 0 ≤ ((rd x5_1 x6_3) : Int) := oda; have q169 : (rd x5_1 x6_3) < (l0_1.length : Int) := oda; obtain ⟨ad169, e169, hx169_0, hx169_1, hx169_2, hx169_3⟩ := at_T41 HR0_1.out (rd x5_1 x6_3) p169 q169; cases e169; replace hx169_0 := (HB.out.cell (World.block_lt_of_cell? w _ hx169_0)).trans hx169_0; replace hx169_1 := (HB.out.cell (World.block_lt_of_cell? w _ hx169_1)).trans hx169_1; replace hx169_2 := (HB.out.cell (World.block_lt_of_cell? w _ hx169_2)).trans hx169_2; replace hx169_3 := (HB.out.cell (World.block_lt_of_cell? w _ hx169_3)).trans hx169_3; replace p169 := eq_true p169; replace q169 := eq_true q169))
          repeat (go_quiet (first | ((with_reducible refine gate_store (t := 3) (p := 69) rfl ?_); (try (rw [drewN_self wr]; generalize hq_ : World.drewN wr _ = wr; have n0_ := ak (Kd.R_at hq_ HO_5.out); have n1_ := ak (Kd.R_at hq_ HO_10.out); have n2_ := ak (Kd.R_at hq_ HO_11.out); have n3_ := ak (blk_at hq_ BK149.out); have n4_ := ak (below_at hq_ HB.out); clear hq_ HO_5 HO_10 HO_11 BK149 HB; have HO_5 := n0_; have HO_10 := n1_; have HO_11 := n2_; have BK149 := n3_; have HB := n4_; clear n0_ n1_ n2_ n3_ n4_; (try (have HP53 := Kd.R_putg HO_10.out (x6_3 : Int) (x11_3.length : Int))))); refine store_event (t := 3) (p := 69) (v := ?vo_w54) (w1 := (wr.setCell ⟨go46, (x6_3 : Int).toNat, none⟩ (.int .i64 (x11_3.length : Int)))) ?hg ?ho ?hn ?hr ?_; (case ho => rfl); (case hg => rfl); (case hn => rfl); (case hr => first | (go_simp; done) | (go_simp; rfl)); intro w54 hw; have hg : wr.grownBy w54 (some go46) := (by rw [hw]; exact HP53.2); have hp_ : Kd.R (Kd.int .i64) 3 w54 w.heap.size (fun k_ => some k_ ≠ (v151 : Value).ownBlock ∧ some k_ ≠ (.slice Ao52 x11_3.length co52 : Value).ownBlock) (.slice (some ⟨go46, 0, none⟩) x10_3.length co51) y163 := (by rw [hw, Ny163.out]; exact HP53.1); clear HP53; have n0_ := ak (Kd.R_after (v := (.slice (some ⟨go46, 0, none⟩) x10_3.length co51)) (v1 := (.slice (some ⟨go46, 0, none⟩) x10_3.length co51)) (ok := (fun k_ => some k_ ≠ (.slice Ao52 x11_3.length co52 : Value).ownBlock)) (by exact rx (Kd.R_mono HO_5.out (fun _ hk => ⟨hk.2, hk.1⟩))) hg (.inl rfl)); have n1_ := ak (hp_); have n2_ := ak (Kd.R_after (v := (.slice (some ⟨go46, 0, none⟩) x10_3.length co51)) (v1 := (.slice (some ⟨go46, 0, none⟩) x10_3.length co51)) (ok := (fun k_ => some k_ ≠ (v151 : Value).ownBlock)) (rx HO_11.out) hg (.inl rfl)); have n3_ := ak (blk_grown (bx BK149.out) hg (Kd.R_ne HO_10.out BK149.out (by decide))); have n4_ := ak ((by rw [hw]; exact below_set (HB.out) GB46.out : Below w.heap.size w w54)); clear HO_5; clear HO_10; clear HO_11; clear BK149; clear HB; have HO_5 := n0_; have HO_10 := n1_; have HO_11 := n2_; have BK149 := n3_; have HB := n4_; clear n0_ n1_ n2_ n3_ n4_; clear hg hw hp_; obtain ⟨Ao55, co55, eo55⟩ := Kd.R_slice HO_5.out; subst eo55; have p164 : 0 ≤ (x6_3 : Int) := oda; have q164 : x6_3 < (x5_1.length : Int) := oda; obtain ⟨ad164, e164, hx164_0⟩ := Kd.at_int (Kd.R_reads' HO_5.out).2.2 x6_3 p164 q164; cases e164; replace p164 := eq_true p164; replace q164 := eq_true q164) | ((with_reducible refine gate_builtin (b := .append) (xs := #[.tmp 70, .tmp 75]) rfl ?_); at_builtin; refine Kd.R_append (Kd.int .i64) (w0 := w) w.heap.size rfl (.tmp 70) (.tmp 75) 26 3 (.int .i64 0) 8 rfl Try.underlying26 info3 rfl (by decide) (by omega) (.slice Ao52 x11_3.length co52) x11_3 (rd x5_1 x6_3) [.int .i64 (rd x5_1 x6_3)] (fun k_ => some k_ ≠ (.slice (some ad164) x5_1.length co55 : Value).ownBlock ∧ some k_ ≠ (.slice (some ⟨go46, 0, none⟩) x10_3.length co51 : Value).ownBlock) (fun _ => False) rfl rfl ?aP (fun _ hk => hk.elim) ?aF ?aO ?aB ?aS ?aL ?_; (case aP => exact rfl); (case aB => exact lb); (case aF => exact (fun k_ hk => ⟨Kd.fresh' (Kd.R_lt (rx HO_5.out)) k_ hk, Kd.fresh' (Kd.R_lt (rx HO_10.out)) k_ hk⟩)); (case aO => exact (rx HO_11.out)); (case aS => exact (below_size lb)); (case aL => have := LMc48.out; omega); intro v166 w56 ho hb hg hat; rw [← Ny165.out] at ho; have n0_ := ak (Kd.R_after (ok := (fun k_ => some k_ ≠ (.slice (some ⟨go46, 0, none⟩) x10_3.length co51 : Value).ownBlock)) (by exact rx (Kd.R_mono HO_5.out (fun _ hk => ⟨hk.2, hk.1⟩))) hg hat); have n1_ := ak (Kd.R_after (ok := (fun k_ => some k_ ≠ (.slice (some ad164) x5_1.length co55 : Value).ownBlock)) (rx HO_10.out) hg hat); have n2_ := ak (blk_grown (bx BK149.out) hg (Kd.R_ne HO_11.out BK149.out (by decide))); have n3_ := ak (hb); have n4_ := ak (ho); clear HO_5; clear HO_10; clear BK149; clear HB; clear HO_11; have HO_5 := n0_; have HO_10 := n1_; have BK149 := n2_; have HB := n3_; have HO167 := n4_; clear n0_ n1_ n2_ n3_ n4_; clear ho hb hg hat; have hcz57_0 : w56.cell? ⟨gb149, 0, none⟩ = some (.int .i64 a0_0) := (blk_cell BK149.out 0).trans rfl; have hcz57_1 : w56.cell? ⟨gb149, 1, none⟩ = some (.slice A0_1 l0_1.length c0_1) := (blk_cell BK149.out 1).trans rfl; have hfz57_0 := blk_frozen BK149.out 0; have hfz57_1 := blk_frozen BK149.out 1; have p168 : 0 ≤ (x6_3 : Int) := oda; have q168 : x6_3 < (x5_1.length : Int) := oda; obtain ⟨ad168, e168, hx168_0⟩ := Kd.at_int (Kd.R_reads' HO_5.out).2.2 x6_3 p168 q168; obtain rfl : ad164 = ad168 := (by injection e168); replace p168 := eq_true p168; replace q168 := eq_true q168; have p169 : 0 ≤ ((rd x5_1 x6_3) : Int) := oda; have q169 : (rd x5_1 x6_3) < (l0_1.length : Int) := oda; obtain ⟨ad169, e169, hx169_0, hx169_1, hx169_2, hx169_3⟩ := at_T41 HR0_1.out (rd x5_1 x6_3) p169 q169; cases e169; replace hx169_0 := (HB.out.cell (World.block_lt_of_cell? w _ hx169_0)).trans hx169_0; replace hx169_1 := (HB.out.cell (World.block_lt_of_cell? w _ hx169_1)).trans hx169_1; replace hx169_2 := (HB.out.cell (World.block_lt_of_cell? w _ hx169_2)).trans hx169_2; replace hx169_3 := (HB.out.cell (World.block_lt_of_cell? w _ hx169_3)).trans hx169_3; replace p169 := eq_true p169; replace q169 := eq_true q169)); try go_wp2_with (first | ((with_reducible refine gate_store (t := 3) (p := 69) rfl ?_); (try (rw [drewN_self wr]; generalize hq_ : World.drewN wr _ = wr; have n0_ := ak (Kd.R_at hq_ HO_5.out); have n1_ := ak (Kd.R_at hq_ HO_10.out); have n2_ := ak (Kd.R_at hq_ HO_11.out); have n3_ := ak (blk_at hq_ BK149.out); have n4_ := ak (below_at hq_ HB.out); clear hq_ HO_5 HO_10 HO_11 BK149 HB; have HO_5 := n0_; have HO_10 := n1_; have HO_11 := n2_; have BK149 := n3_; have HB := n4_; clear n0_ n1_ n2_ n3_ n4_; (try (have HP53 := Kd.R_putg HO_10.out (x6_3 : Int) (x11_3.length : Int))))); refine store_event (t := 3) (p := 69) (v := ?vo_w54) (w1 := (wr.setCell ⟨go46, (x6_3 : Int).toNat, none⟩ (.int .i64 (x11_3.length : Int)))) ?hg ?ho ?hn ?hr ?_; (case ho => rfl); (case hg => rfl); (case hn => rfl); (case hr => first | (go_simp; done) | (go_simp; rfl)); intro w54 hw; have hg : wr.grownBy w54 (some go46) := (by rw [hw]; exact HP53.2); have hp_ : Kd.R (Kd.int .i64) 3 w54 w.heap.size (fun k_ => some k_ ≠ (v151 : Value).ownBlock ∧ some k_ ≠ (.slice Ao52 x11_3.length co52 : Value).ownBlock) (.slice (some ⟨go46, 0, none⟩) x10_3.length co51) y163 := (by rw [hw, Ny163.out]; exact HP53.1); clear HP53; have n0_ := ak (Kd.R_after (v := (.slice (some ⟨go46, 0, none⟩) x10_3.length co51)) (v1 := (.slice (some ⟨go46, 0, none⟩) x10_3.length co51)) (ok := (fun k_ => some k_ ≠ (.slice Ao52 x11_3.length co52 : Value).ownBlock)) (by exact rx (Kd.R_mono HO_5.out (fun _ hk => ⟨hk.2, hk.1⟩))) hg (.inl rfl)); have n1_ := ak (hp_); have n2_ := ak (Kd.R_after (v := (.slice (some ⟨go46, 0, none⟩) x10_3.length co51)) (v1 := (.slice (some ⟨go46, 0, none⟩) x10_3.length co51)) (ok := (fun k_ => some k_ ≠ (v151 : Value).ownBlock)) (rx HO_11.out) hg (.inl rfl)); have n3_ := ak (blk_grown (bx BK149.out) hg (Kd.R_ne HO_10.out BK149.out (by decide))); have n4_ := ak ((by rw [hw]; exact below_set (HB.out) GB46.out : Below w.heap.size w w54)); clear HO_5; clear HO_10; clear HO_11; clear BK149; clear HB; have HO_5 := n0_; have HO_10 := n1_; have HO_11 := n2_; have BK149 := n3_; have HB := n4_; clear n0_ n1_ n2_ n3_ n4_; clear hg hw hp_; obtain ⟨Ao55, co55, eo55⟩ := Kd.R_slice HO_5.out; subst eo55; have p164 : 0 ≤ (x6_3 : Int) := oda; have q164 : x6_3 < (x5_1.length : Int) := oda; obtain ⟨ad164, e164, hx164_0⟩ := Kd.at_int (Kd.R_reads' HO_5.out).2.2 x6_3 p164 q164; cases e164; replace p164 := eq_true p164; replace q164 := eq_true q164) | ((with_reducible refine gate_builtin (b := .append) (xs := #[.tmp 70, .tmp 75]) rfl ?_); at_builtin; refine Kd.R_append (Kd.int .i64) (w0 := w) w.heap.size rfl (.tmp 70) (.tmp 75) 26 3 (.int .i64 0) 8 rfl Try.underlying26 info3 rfl (by decide) (by omega) (.slice Ao52 x11_3.length co52) x11_3 (rd x5_1 x6_3) [.int .i64 (rd x5_1 x6_3)] (fun k_ => some k_ ≠ (.slice (some ad164) x5_1.length co55 : Value).ownBlock ∧ some k_ ≠ (.slice (some ⟨go46, 0, none⟩) x10_3.length co51 : Value).ownBlock) (fun _ => False) rfl rfl ?aP (fun _ hk => hk.elim) ?aF ?aO ?aB ?aS ?aL ?_; (case aP => exact rfl); (case aB => exact lb); (case aF => exact (fun k_ hk => ⟨Kd.fresh' (Kd.R_lt (rx HO_5.out)) k_ hk, Kd.fresh' (Kd.R_lt (rx HO_10.out)) k_ hk⟩)); (case aO => exact (rx HO_11.out)); (case aS => exact (below_size lb)); (case aL => have := LMc48.out; omega); intro v166 w56 ho hb hg hat; rw [← Ny165.out] at ho; have n0_ := ak (Kd.R_after (ok := (fun k_ => some k_ ≠ (.slice (some ⟨go46, 0, none⟩) x10_3.length co51 : Value).ownBlock)) (by exact rx (Kd.R_mono HO_5.out (fun _ hk => ⟨hk.2, hk.1⟩))) hg hat); have n1_ := ak (Kd.R_after (ok := (fun k_ => some k_ ≠ (.slice (some ad164) x5_1.length co55 : Value).ownBlock)) (rx HO_10.out) hg hat); have n2_ := ak (blk_grown (bx BK149.out) hg (Kd.R_ne HO_11.out BK149.out (by decide))); have n3_ := ak (hb); have n4_ := ak (ho); clear HO_5; clear HO_10; clear BK149; clear HB; clear HO_11; have HO_5 := n0_; have HO_10 := n1_; have BK149 := n2_; have HB := n3_; have HO167 := n4_; clear n0_ n1_ n2_ n3_ n4_; clear ho hb hg hat; have hcz57_0 : w56.cell? ⟨gb149, 0, none⟩ = some (.int .i64 a0_0) := (blk_cell BK149.out 0).trans rfl; have hcz57_1 : w56.cell? ⟨gb149, 1, none⟩ = some (.slice A0_1 l0_1.length c0_1) := (blk_cell BK149.out 1).trans rfl; have hfz57_0 := blk_frozen BK149.out 0; have hfz57_1 := blk_frozen BK149.out 1; have p168 : 0 ≤ (x6_3 : Int) := oda; have q168 : x6_3 < (x5_1.length : Int) := oda; obtain ⟨ad168, e168, hx168_0⟩ := Kd.at_int (Kd.R_reads' HO_5.out).2.2 x6_3 p168 q168; obtain rfl : ad164 = ad168 := (by injection e168); replace p168 := eq_true p168; replace q168 := eq_true q168; have p169 : 0 ≤ ((rd x5_1 x6_3) : Int) := oda; have q169 : (rd x5_1 x6_3) < (l0_1.length : Int) := oda; obtain ⟨ad169, e169, hx169_0, hx169_1, hx169_2, hx169_3⟩ := at_T41 HR0_1.out (rd x5_1 x6_3) p169 q169; cases e169; replace hx169_0 := (HB.out.cell (World.block_lt_of_cell? w _ hx169_0)).trans hx169_0; replace hx169_1 := (HB.out.cell (World.block_lt_of_cell? w _ hx169_1)).trans hx169_1; replace hx169_2 := (HB.out.cell (World.block_lt_of_cell? w _ hx169_2)).trans hx169_2; replace hx169_3 := (HB.out.cell (World.block_lt_of_cell? w _ hx169_3)).trans hx169_3; replace p169 := eq_true p169; replace q169 := eq_true q169)))
          go_roundg k3
          case measure => have := HK1.out; have := HK2.out; have := HK3.out; omega
          case rel => exact ⟨((rd_T41 l0_1 (rd x5_1 x6_3)).f0), (y163), (y165), (by first | rfl | (simp [*]; done)), H', ⟨by have := HK1.out; have := HK2.out; have := HK3.out; omega⟩, ⟨rx HO_5.out⟩, ⟨rx HO_10.out⟩, ⟨rx HO167.out⟩, ⟨bx BK149.out⟩, ⟨lb⟩⟩
         ·
          rw [if_neg c45] at H
          have c45b0 : decide ((rd x10_3 x6_3) < 0) = false := decide_eq_false c45
          clear c45
          have H' := ak H
          clear H
          obtain ⟨Ao58, co58, eo58⟩ := Kd.R_slice HO_10.out
          subst eo58
          have p162 : 0 ≤ (x6_3 : Int) := oda
          have q162 : x6_3 < (x10_3.length : Int) := oda
          obtain ⟨ad162, e162, hx162_0⟩ := Kd.at_int (Kd.R_reads' HO_10.out).2.2 x6_3 p162 q162
          cases e162
          replace p162 := eq_true p162
          replace q162 := eq_true q162
          obtain ⟨Ao59, co59, eo59⟩ := Kd.R_slice HO_11.out
          subst eo59
          go_wp2
          repeat (go_quiet (fail); try go_wp2)
          go_loopg [12, 13] k3 (fun kq v12 v13 w' => ∃ (x12_4 : List Int) (x13_4 : Int), v13 = .int .i64 x13_4 ∧ Aside0 (walk_round.l3 kq x6_3 x10_3 x11_3 x12_4 x13_4 = some r) ∧ Aside0 (kq ≤ k3) ∧ Aside0 (Kd.R (Kd.int .i64) 3 w' w.heap.size (fun k_ => some k_ ≠ ((.slice Ao59 x11_3.length co59) : Value).ownBlock ∧ some k_ ≠ (v12 : Value).ownBlock) (.slice (some ad162) x10_3.length co58) x10_3) ∧ Aside0 (Kd.R (Kd.int .i64) 3 w' w.heap.size (fun k_ => some k_ ≠ ((.slice (some ad162) x10_3.length co58) : Value).ownBlock ∧ some k_ ≠ (v12 : Value).ownBlock) (.slice Ao59 x11_3.length co59) x11_3) ∧ Aside0 (Kd.R (Kd.int .i64) 3 w' w.heap.size (fun k_ => some k_ ≠ ((.slice (some ad162) x10_3.length co58) : Value).ownBlock ∧ some k_ ≠ ((.slice Ao59 x11_3.length co59) : Value).ownBlock) v12 x12_4) ∧ Aside0 (w'.heap[gb149]? = some (.cells #[.int .i64 a0_0, (.slice A0_1 l0_1.length c0_1)] 24 (0, 0))) ∧ Aside0 (Below w.heap.size w w'))
          case atStart => exact ⟨(([] : List Int)), (wrap64 ((x11_3.length : Int) - 1)), (by first | rfl | (simp [*]; done)), H', ⟨Nat.le_refl _⟩, ⟨by exact rx (Kd.R_mono HO_10.out (fun _ hk => ⟨hk.2, (by simp [Value.ownBlock])⟩))⟩, ⟨by exact rx (Kd.R_mono HO_11.out (fun _ hk => ⟨hk.2, (by simp [Value.ownBlock])⟩))⟩, ⟨by first | exact Kd.R_nil _ _ _ _ _ | exact Kd.N_nil _ _ _ _ _ | exact Kd.V_nil _ _ _ _ _ | exact Kd.Q_nil _ _ _ _ _ | exact Kd.S_nil _ _ _ _ _⟩, ⟨bx BK149.out⟩, ⟨lb⟩⟩
          case round =>
           clear H'
           try clear c1; try clear p1; try clear q1; try clear hx1; try clear c2; try clear p2; try clear q2; try clear hx2; try clear hf2; try clear c3; try clear q3; try clear c4; try clear p4; try clear q4; try clear hx4; try clear hf4; try clear c5; try clear p6; try clear c8; try clear c8b0; try clear c9; try clear c9b0; try clear c10; try clear c10b0; try clear c11; try clear c11b0; try clear c12; try clear c12b0; try clear q13; try clear c14; try clear p15; try clear q15; try clear hx15; try clear c16; try clear p16; try clear q16; try clear hx16; try clear c18; try clear c18b0; try clear c19; try clear c19b0; try clear q20; try clear c21; try clear c23; try clear c25; try clear c25b0; try clear p26; try clear q26; try clear hx26; try clear hf26; try clear c28; try clear c33; try clear c35; try clear c35b0; try clear c36; try clear c36b0; try clear c37; try clear c37b0; try clear q38; try clear c39; try clear c43; try clear c43b0; try clear c44; try clear c44b0; try clear c45; try clear c45b0; try clear p46; try clear q46; try clear hx46; try clear hf46; try clear c47; try clear c47b0; try clear c48; try clear c49; try clear c49b0; try clear c50; try clear c50b0; try clear hcz17_0; try clear hcz17_1; try clear hcz17_2; try clear hcz17_3; try clear hcz24_0; try clear hcz24_1; try clear hcz24_2; try clear hcz24_3; try clear hcz29_0; try clear hcz29_1; try clear hcz29_2; try clear hcz29_3; try clear hcz31_0; try clear hcz31_1; try clear hcz31_2; try clear hcz31_3; try clear hcz34_0; try clear hcz34_1; try clear hcz41_0; try clear hcz41_1; try clear hcz57_0; try clear hcz57_1; try clear hcz5_0; try clear hcz5_1; try clear hcz7_0; try clear hcz7_1; try clear hfz17_0; try clear hfz17_1; try clear hfz17_2; try clear hfz17_3; try clear hfz24_0; try clear hfz24_1; try clear hfz24_2; try clear hfz24_3; try clear hfz29_0; try clear hfz29_1; try clear hfz29_2; try clear hfz29_3; try clear hfz31_0; try clear hfz31_1; try clear hfz31_2; try clear hfz31_3; try clear hfz34_0; try clear hfz34_1; try clear hfz41_0; try clear hfz41_1; try clear hfz57_0; try clear hfz57_1; try clear hfz5_0; try clear hfz5_1; try clear hfz7_0; try clear hfz7_1; try clear hx153_0; try clear hx153_1; try clear hx153_2; try clear hx153_3; try clear hx155_0; try clear hx156_0; try clear hx158_0; try clear hx162_0; try clear hx164_0; try clear hx168_0; try clear hx169_0; try clear hx169_1; try clear hx169_2; try clear hx169_3; try clear hx26_0; try clear hx46_0; try clear p1; try clear p15; try clear p153; try clear p155; try clear p156; try clear p158; try clear p162; try clear p164; try clear p168; try clear p169; try clear p2; try clear p26; try clear p46; try clear p6; try clear q1; try clear q13; try clear q15; try clear q153; try clear q155; try clear q156; try clear q158; try clear q162; try clear q164; try clear q168; try clear q169; try clear q2; try clear q20; try clear q26; try clear q3; try clear q38; try clear q46
           obtain ⟨x12_4, x13_4, rfl, HA, HK4, HO_10, HO_11, HO_12, BK149, HB⟩ := hrel
           cases gk with
           | zero => exact absurd HA.out (by simp [walk_round.l3])
           | succ k4 =>
            have H := HA.out
            clear HA
            simp only [walk_round.l3] at H
            by_cases c60 : 0 ≤ x6_3
            rotate_left
            ·
             rw [if_neg c60] at H
             exact absurd H (by simp)
            rw [if_pos c60] at H
            have c60b0 : decide (0 ≤ x6_3) = true := decide_eq_true c60
            clear c60
            by_cases c61 : x6_3 < (x10_3.length : Int)
            rotate_left
            ·
             rw [if_neg c61] at H
             exact absurd H (by simp)
            rw [if_pos c61] at H
            have c61b0 : decide (x6_3 < (x10_3.length : Int)) = true := decide_eq_true c61
            clear c61
            by_cases c62 : x13_4 ≥ (rd x10_3 x6_3)
            ·
             rw [if_pos c62] at H
             have c62b0 : decide ((rd x10_3 x6_3) ≤ x13_4) = true := decide_eq_true c62
             clear c62
             by_cases c63 : 0 ≤ x13_4
             rotate_left
             ·
              rw [if_neg c63] at H
              exact absurd H (by simp)
             rw [if_pos c63] at H
             have c63b0 : decide (0 ≤ x13_4) = true := decide_eq_true c63
             clear c63
             by_cases c64 : x13_4 < (x11_3.length : Int)
             rotate_left
             ·
              rw [if_neg c64] at H
              exact absurd H (by simp)
             rw [if_pos c64] at H
             have c64b0 : decide (x13_4 < (x11_3.length : Int)) = true := decide_eq_true c64
             clear c64
             by_cases c65 : x12_4.length < 17592186044416
             rotate_left
             ·
              rw [if_neg c65] at H
              exact absurd H (by simp)
             rw [if_pos c65] at H
             have LMc65 := ak c65
             clear c65
             obtain ⟨y172, hy172⟩ : ∃ y_ : List Int, y_ = (x12_4 ++ [rd x11_3 x13_4]) := ⟨_, rfl⟩
             replace H : (walk_round.l3 k4 x6_3 x10_3 x11_3 y172 (wrap64 (x13_4 - 1))) = some r := by first | (rw [hy172]; exact H) | exact H
             have Ny172 := ak hy172
             clear hy172
             have H' := ak H
             clear H
             have p170 : 0 ≤ (x6_3 : Int) := oda
             have q170 : x6_3 < (x10_3.length : Int) := oda
             obtain ⟨ad170, e170, hx170_0⟩ := Kd.at_int (Kd.R_reads' HO_10.out).2.2 x6_3 p170 q170
             obtain rfl : ad162 = ad170 := (by injection e170)
             replace p170 := eq_true p170
             replace q170 := eq_true q170
             have p171 : 0 ≤ (x13_4 : Int) := oda
             have q171 : x13_4 < (x11_3.length : Int) := oda
             obtain ⟨ad171, e171, hx171_0⟩ := Kd.at_int (Kd.R_reads' HO_11.out).2.2 x13_4 p171 q171
             cases e171
             replace p171 := eq_true p171
             replace q171 := eq_true q171
             go_wp2_with (first | ((with_reducible refine gate_builtin (b := .append) (xs := #[.tmp 97, .tmp 102]) rfl ?_); at_builtin; refine Kd.R_append (Kd.int .i64) (w0 := w) w.heap.size rfl (.tmp 97) (.tmp 102) 26 3 (.int .i64 0) 8 rfl Try.underlying26 info3 rfl (by decide) (by omega) u12 x12_4 (rd x11_3 x13_4) [.int .i64 (rd x11_3 x13_4)] (fun k_ => some k_ ≠ (.slice (some ad162) x10_3.length co58 : Value).ownBlock ∧ some k_ ≠ (.slice (some ad171) x11_3.length co59 : Value).ownBlock) (fun _ => False) rfl rfl ?aP (fun _ hk => hk.elim) ?aF ?aO ?aB ?aS ?aL ?_; (case aP => exact rfl); (case aB => exact lb); (case aF => exact (fun k_ hk => ⟨Kd.fresh' (Kd.R_lt (rx HO_10.out)) k_ hk, Kd.fresh' (Kd.R_lt (rx HO_11.out)) k_ hk⟩)); (case aO => exact (rx HO_12.out)); (case aS => exact (below_size lb)); (case aL => have := LMc65.out; omega); intro v173 w66 ho hb hg hat; rw [← Ny172.out] at ho; have n0_ := ak (Kd.R_after (ok := (fun k_ => some k_ ≠ (.slice (some ad171) x11_3.length co59 : Value).ownBlock)) (rx HO_10.out) hg hat); have n1_ := ak (Kd.R_after (ok := (fun k_ => some k_ ≠ (.slice (some ad162) x10_3.length co58 : Value).ownBlock)) (rx HO_11.out) hg hat); have n2_ := ak (blk_grown (bx BK149.out) hg (Kd.R_ne HO_12.out BK149.out (by decide))); have n3_ := ak (hb); have n4_ := ak (ho); clear HO_10; clear HO_11; clear BK149; clear HB; clear HO_12; have HO_10 := n0_; have HO_11 := n1_; have BK149 := n2_; have HB := n3_; have HO174 := n4_; clear n0_ n1_ n2_ n3_ n4_; clear ho hb hg hat))
             go_roundg k4
             case measure => have := HK1.out; have := HK2.out; have := HK3.out; have := HK4.out; omega
             case rel => exact ⟨(y172), (wrap64 (x13_4 - 1)), (by first | rfl | (simp [*]; done)), H', ⟨by have := HK1.out; have := HK2.out; have := HK3.out; have := HK4.out; omega⟩, ⟨rx HO_10.out⟩, ⟨rx HO_11.out⟩, ⟨rx HO174.out⟩, ⟨bx BK149.out⟩, ⟨lb⟩⟩
            ·
             rw [if_neg c62] at H
             have c62b0 : decide ((rd x10_3 x6_3) ≤ x13_4) = false := decide_eq_false c62
             clear c62
             obtain rfl := Option.some.inj H
             have p170 : 0 ≤ (x6_3 : Int) := oda
             have q170 : x6_3 < (x10_3.length : Int) := oda
             obtain ⟨ad170, e170, hx170_0⟩ := Kd.at_int (Kd.R_reads' HO_10.out).2.2 x6_3 p170 q170
             obtain rfl : ad162 = ad170 := (by injection e170)
             replace p170 := eq_true p170
             replace q170 := eq_true q170
             go_wp2
             repeat (go_quiet (fail); try go_wp2)
             go_ret
             exact ⟨_, by first | rfl | (simp [errW_none, errW_some] <;> rfl) | (simp [*, errW_none, errW_some] <;> rfl), by exact rx (Kd.R_mono HO_12.out (fun _ hk => trivial)), lb⟩
end Go.Proofs.Ytacklfnnpiobgaa.Q
