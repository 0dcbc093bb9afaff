-- PRINTED by print.py (a twelfth state) out of the translation. Not trusted: Lean checks it.
import Derived.Test.YtacklfnnpiobgaaQ0
import Derived.Test.YtacklfnnpiobgaaQ3
import Derived.Test.YtacklfnnpiobgaaQ4
import Derived.Test.YtacklfnnpiobgaaQ7
namespace Go.Proofs.Ytacklfnnpiobgaa.Q
open Go.RowKit Go.Proofs.YtacklfnnpiobgaaW.PrintWords Go.Proofs.YtacklfnnpiobgaaW.PrintLast Go.Proofs.YtacklfnnpiobgaaW.PrintMore
attribute [local go_sem] max2_int min2_int max_two min_two max_three min_three max_four min_four   -- for this text's walks alone
set_option linter.unusedVariables false
set_option linter.unusedSimpArgs false

/-! ### walk_Order: function 16 -/
mutual
def walk_Order.l0 : Nat → List Int → List (S41) → Int → Int → Int → List (S41) → Option (List Int × List Int × Int)
  | 0, _, _, _, _, _, _ => none
  | k + 1, x6, x25, x26, x27, x176000, x176001 => if x27 < x26 then (if 0 ≤ x27 then (if x27 < (x25.length : Int) then (if 0 ≤ ((rd_T41 x25 x27).f1) then (if ((rd_T41 x25 x27).f1) < (x6.length : Int) then (walk_Order.l0 k (x6.set (((rd_T41 x25 x27).f1) : Int).toNat (wrap64 ((rd x6 ((rd_T41 x25 x27).f1)) + 1))) x25 x26 (wrap64 (x27 + 1)) x176000 x176001) else (none)) else (none)) else (none)) else (none)) else (if 0 ≤ x176000 then (if (x176000 : Int).toNat ≤ 281474976710656 then ((walk_outs.f k x176000 x176001).bind fun t189 => (walk_Order.l1 k ([] : List Int) x6 (List.replicate (x176000 : Int).toNat false) t189 x176000 0 x176000 x176001)) else (none)) else (none))
def walk_Order.l1 : Nat → List Int → List Int → List Bool → List (List Int) → Int → Int → Int → List (S41) → Option (List Int × List Int × Int)
  | 0, _, _, _, _, _, _, _, _ => none
  | k + 1, x2, x6, x9, x10, x45, x46, x176000, x176001 => if x46 < x45 then (walk_Order.l2 k x2 x6 x9 x10 x45 x46 x176000 0 x176000 x176001) else (some (x2, ([] : List Int), 0))
def walk_Order.l2 : Nat → List Int → List Int → List Bool → List (List Int) → Int → Int → Int → Int → Int → List (S41) → Option (List Int × List Int × Int)
  | 0, _, _, _, _, _, _, _, _, _, _ => none
  | k + 1, x2, x6, x9, x10, x45, x46, x49, x50, x176000, x176001 => if x50 < x49 then (if 0 ≤ x50 then (if x50 < (x9.length : Int) then (if rdOf false x9 x50 = true then (walk_Order.j3 k x2 x6 x9 x10 x50 x45 x46 x49 x50 false x176000 x176001) else (if x50 < (x6.length : Int) then (walk_Order.j3 k x2 x6 x9 x10 x50 x45 x46 x49 x50 ((rd x6 x50) == 0) x176000 x176001) else (none))) else (none)) else (none)) else ((walk_round.f k x176000 x176001 x9).bind fun t192 => (some (([] : List Int), t192, 71)))
def walk_Order.j3 : Nat → List Int → List Int → List Bool → List (List Int) → Int → Int → Int → Int → Int → Bool → Int → List (S41) → Option (List Int × List Int × Int)
  | 0, _, _, _, _, _, _, _, _, _, _, _, _ => none
  | k + 1, x2, x6, x9, x10, x11, x45, x46, x49, x50, x64, x176000, x176001 => if x64 = true then (if 0 ≤ x11 then (if x11 < (x9.length : Int) then (if x2.length < 17592186044416 then (if x11 < (x10.length : Int) then (walk_Order.l3 k (x2 ++ [x11]) x6 (x9.set (x11 : Int).toNat true) x10 x45 x46 (rd_L2 x10 x11) ((rd_L2 x10 x11).length : Int) 0 x176000 x176001) else (none)) else (none)) else (none)) else (none)) else (walk_Order.l2 k x2 x6 x9 x10 x45 x46 x49 (wrap64 (x50 + 1)) x176000 x176001)
def walk_Order.l3 : Nat → List Int → List Int → List Bool → List (List Int) → Int → Int → List Int → Int → Int → Int → List (S41) → Option (List Int × List Int × Int)
  | 0, _, _, _, _, _, _, _, _, _, _, _ => none
  | k + 1, x2, x6, x9, x10, x45, x46, x75, x76, x77, x176000, x176001 => if x77 < x76 then (if 0 ≤ x77 then (if x77 < (x75.length : Int) then (if 0 ≤ (rd x75 x77) then (if (rd x75 x77) < (x176001.length : Int) then (if 0 ≤ ((rd_T41 x176001 (rd x75 x77)).f1) then (if ((rd_T41 x176001 (rd x75 x77)).f1) < (x6.length : Int) then (walk_Order.l3 k x2 (x6.set (((rd_T41 x176001 (rd x75 x77)).f1) : Int).toNat (wrap64 ((rd x6 ((rd_T41 x176001 (rd x75 x77)).f1)) - 1))) x9 x10 x45 x46 x75 x76 (wrap64 (x77 + 1)) x176000 x176001) else (none)) else (none)) else (none)) else (none)) else (none)) else (none)) else (walk_Order.l1 k x2 x6 x9 x10 x45 (wrap64 (x46 + 1)) x176000 x176001)
end
def walk_Order.f (k : Nat) (a0_0 : Int) (l0_1 : List (S41)) : Option (List Int × List Int × Int) := (graph_Check.f k a0_0 l0_1).bind fun bt176 => (if bt176.1 = 0 then (if 0 ≤ a0_0 then (if (a0_0 : Int).toNat ≤ 35184372088832 then (walk_Order.l0 k (List.replicate (a0_0 : Int).toNat 0) l0_1 (l0_1.length : Int) 0 a0_0 l0_1) else (none)) else (none)) else (some (([] : List Int), ([] : List Int), bt176.1)))
theorem walk_Order.mono_l : ∀ k, (∀ y0 y1 y2 y3 y4 y5, LeO (walk_Order.l0 k y0 y1 y2 y3 y4 y5) (walk_Order.l0 (k + 1) y0 y1 y2 y3 y4 y5)) ∧ (∀ y0 y1 y2 y3 y4 y5 y6 y7, LeO (walk_Order.l1 k y0 y1 y2 y3 y4 y5 y6 y7) (walk_Order.l1 (k + 1) y0 y1 y2 y3 y4 y5 y6 y7)) ∧ (∀ y0 y1 y2 y3 y4 y5 y6 y7 y8 y9, LeO (walk_Order.l2 k y0 y1 y2 y3 y4 y5 y6 y7 y8 y9) (walk_Order.l2 (k + 1) y0 y1 y2 y3 y4 y5 y6 y7 y8 y9)) ∧ (∀ y0 y1 y2 y3 y4 y5 y6 y7 y8 y9 y10 y11, LeO (walk_Order.j3 k y0 y1 y2 y3 y4 y5 y6 y7 y8 y9 y10 y11) (walk_Order.j3 (k + 1) y0 y1 y2 y3 y4 y5 y6 y7 y8 y9 y10 y11)) ∧ (∀ y0 y1 y2 y3 y4 y5 y6 y7 y8 y9 y10, LeO (walk_Order.l3 k y0 y1 y2 y3 y4 y5 y6 y7 y8 y9 y10) (walk_Order.l3 (k + 1) y0 y1 y2 y3 y4 y5 y6 y7 y8 y9 y10))
  | 0 => ⟨fun _ _ _ _ _ _ r h => by simp [walk_Order.l0] at h, fun _ _ _ _ _ _ _ _ r h => by simp [walk_Order.l1] at h, fun _ _ _ _ _ _ _ _ _ _ r h => by simp [walk_Order.l2] at h, fun _ _ _ _ _ _ _ _ _ _ _ _ r h => by simp [walk_Order.j3] at h, fun _ _ _ _ _ _ _ _ _ _ _ r h => by simp [walk_Order.l3] at h⟩
  | k + 1 => by
    obtain ⟨ih0, ih1, ih2, ih3, ih4⟩ := walk_Order.mono_l k
    refine ⟨?_, ?_, ?_, ?_, ?_⟩
    · intro y0 y1 y2 y3 y4 y5
      unfold walk_Order.l0
      repeat' first
      | (with_reducible exact ih0 _ _ _ _ _ _)
      | (with_reducible exact ih1 _ _ _ _ _ _ _ _)
      | (with_reducible exact ih2 _ _ _ _ _ _ _ _ _ _)
      | (with_reducible exact ih3 _ _ _ _ _ _ _ _ _ _ _ _)
      | (with_reducible exact ih4 _ _ _ _ _ _ _ _ _ _ _)
      | (with_reducible exact graph_Check.mono _ _ _)
      | (with_reducible exact walk_outs.mono _ _ _)
      | (with_reducible exact walk_round.mono _ _ _ _)
      | (with_reducible exact LeO.refl _)
      | (with_reducible exact LeO.none _)
      | (with_reducible refine LeO.ite ?_ ?_)
      | (with_reducible refine LeO.bind ?_ (fun _ => ?_))
      | exact ih0 _ _ _ _ _ _
      | exact ih1 _ _ _ _ _ _ _ _
      | exact ih2 _ _ _ _ _ _ _ _ _ _
      | exact ih3 _ _ _ _ _ _ _ _ _ _ _ _
      | exact ih4 _ _ _ _ _ _ _ _ _ _ _
      | exact graph_Check.mono _ _ _
      | exact walk_outs.mono _ _ _
      | exact walk_round.mono _ _ _ _
      | exact LeO.none _
      | refine LeO.ite ?_ ?_
      | refine LeO.bind ?_ (fun _ => ?_)
    · intro y0 y1 y2 y3 y4 y5 y6 y7
      unfold walk_Order.l1
      repeat' first
      | (with_reducible exact ih0 _ _ _ _ _ _)
      | (with_reducible exact ih1 _ _ _ _ _ _ _ _)
      | (with_reducible exact ih2 _ _ _ _ _ _ _ _ _ _)
      | (with_reducible exact ih3 _ _ _ _ _ _ _ _ _ _ _ _)
      | (with_reducible exact ih4 _ _ _ _ _ _ _ _ _ _ _)
      | (with_reducible exact graph_Check.mono _ _ _)
      | (with_reducible exact walk_outs.mono _ _ _)
      | (with_reducible exact walk_round.mono _ _ _ _)
      | (with_reducible exact LeO.refl _)
      | (with_reducible exact LeO.none _)
      | (with_reducible refine LeO.ite ?_ ?_)
      | (with_reducible refine LeO.bind ?_ (fun _ => ?_))
      | exact ih0 _ _ _ _ _ _
      | exact ih1 _ _ _ _ _ _ _ _
      | exact ih2 _ _ _ _ _ _ _ _ _ _
      | exact ih3 _ _ _ _ _ _ _ _ _ _ _ _
      | exact ih4 _ _ _ _ _ _ _ _ _ _ _
      | exact graph_Check.mono _ _ _
      | exact walk_outs.mono _ _ _
      | exact walk_round.mono _ _ _ _
      | exact LeO.none _
      | refine LeO.ite ?_ ?_
      | refine LeO.bind ?_ (fun _ => ?_)
    · intro y0 y1 y2 y3 y4 y5 y6 y7 y8 y9
      unfold walk_Order.l2
      repeat' first
      | (with_reducible exact ih0 _ _ _ _ _ _)
      | (with_reducible exact ih1 _ _ _ _ _ _ _ _)
      | (with_reducible exact ih2 _ _ _ _ _ _ _ _ _ _)
      | (with_reducible exact ih3 _ _ _ _ _ _ _ _ _ _ _ _)
      | (with_reducible exact ih4 _ _ _ _ _ _ _ _ _ _ _)
      | (with_reducible exact graph_Check.mono _ _ _)
      | (with_reducible exact walk_outs.mono _ _ _)
      | (with_reducible exact walk_round.mono _ _ _ _)
      | (with_reducible exact LeO.refl _)
      | (with_reducible exact LeO.none _)
      | (with_reducible refine LeO.ite ?_ ?_)
      | (with_reducible refine LeO.bind ?_ (fun _ => ?_))
      | exact ih0 _ _ _ _ _ _
      | exact ih1 _ _ _ _ _ _ _ _
      | exact ih2 _ _ _ _ _ _ _ _ _ _
      | exact ih3 _ _ _ _ _ _ _ _ _ _ _ _
      | exact ih4 _ _ _ _ _ _ _ _ _ _ _
      | exact graph_Check.mono _ _ _
      | exact walk_outs.mono _ _ _
      | exact walk_round.mono _ _ _ _
      | exact LeO.none _
      | refine LeO.ite ?_ ?_
      | refine LeO.bind ?_ (fun _ => ?_)
    · intro y0 y1 y2 y3 y4 y5 y6 y7 y8 y9 y10 y11
      unfold walk_Order.j3
      repeat' first
      | (with_reducible exact ih0 _ _ _ _ _ _)
      | (with_reducible exact ih1 _ _ _ _ _ _ _ _)
      | (with_reducible exact ih2 _ _ _ _ _ _ _ _ _ _)
      | (with_reducible exact ih3 _ _ _ _ _ _ _ _ _ _ _ _)
      | (with_reducible exact ih4 _ _ _ _ _ _ _ _ _ _ _)
      | (with_reducible exact graph_Check.mono _ _ _)
      | (with_reducible exact walk_outs.mono _ _ _)
      | (with_reducible exact walk_round.mono _ _ _ _)
      | (with_reducible exact LeO.refl _)
      | (with_reducible exact LeO.none _)
      | (with_reducible refine LeO.ite ?_ ?_)
      | (with_reducible refine LeO.bind ?_ (fun _ => ?_))
      | exact ih0 _ _ _ _ _ _
      | exact ih1 _ _ _ _ _ _ _ _
      | exact ih2 _ _ _ _ _ _ _ _ _ _
      | exact ih3 _ _ _ _ _ _ _ _ _ _ _ _
      | exact ih4 _ _ _ _ _ _ _ _ _ _ _
      | exact graph_Check.mono _ _ _
      | exact walk_outs.mono _ _ _
      | exact walk_round.mono _ _ _ _
      | exact LeO.none _
      | refine LeO.ite ?_ ?_
      | refine LeO.bind ?_ (fun _ => ?_)
    · intro y0 y1 y2 y3 y4 y5 y6 y7 y8 y9 y10
      unfold walk_Order.l3
      repeat' first
      | (with_reducible exact ih0 _ _ _ _ _ _)
      | (with_reducible exact ih1 _ _ _ _ _ _ _ _)
      | (with_reducible exact ih2 _ _ _ _ _ _ _ _ _ _)
      | (with_reducible exact ih3 _ _ _ _ _ _ _ _ _ _ _ _)
      | (with_reducible exact ih4 _ _ _ _ _ _ _ _ _ _ _)
      | (with_reducible exact graph_Check.mono _ _ _)
      | (with_reducible exact walk_outs.mono _ _ _)
      | (with_reducible exact walk_round.mono _ _ _ _)
      | (with_reducible exact LeO.refl _)
      | (with_reducible exact LeO.none _)
      | (with_reducible refine LeO.ite ?_ ?_)
      | (with_reducible refine LeO.bind ?_ (fun _ => ?_))
      | exact ih0 _ _ _ _ _ _
      | exact ih1 _ _ _ _ _ _ _ _
      | exact ih2 _ _ _ _ _ _ _ _ _ _
      | exact ih3 _ _ _ _ _ _ _ _ _ _ _ _
      | exact ih4 _ _ _ _ _ _ _ _ _ _ _
      | exact graph_Check.mono _ _ _
      | exact walk_outs.mono _ _ _
      | exact walk_round.mono _ _ _ _
      | exact LeO.none _
      | refine LeO.ite ?_ ?_
      | refine LeO.bind ?_ (fun _ => ?_)
theorem walk_Order.mono : ∀ a0 a1 k, LeO (walk_Order.f k a0 a1) (walk_Order.f (k + 1) a0 a1) := by
  intro a0 a1 k
  obtain ⟨ih0, ih1, ih2, ih3, ih4⟩ := walk_Order.mono_l k
  unfold walk_Order.f
  repeat' first
      | (with_reducible exact ih0 _ _ _ _ _ _)
      | (with_reducible exact ih1 _ _ _ _ _ _ _ _)
      | (with_reducible exact ih2 _ _ _ _ _ _ _ _ _ _)
      | (with_reducible exact ih3 _ _ _ _ _ _ _ _ _ _ _ _)
      | (with_reducible exact ih4 _ _ _ _ _ _ _ _ _ _ _)
      | (with_reducible exact graph_Check.mono _ _ _)
      | (with_reducible exact walk_outs.mono _ _ _)
      | (with_reducible exact walk_round.mono _ _ _ _)
      | (with_reducible exact LeO.refl _)
      | (with_reducible exact LeO.none _)
      | (with_reducible refine LeO.ite ?_ ?_)
      | (with_reducible refine LeO.bind ?_ (fun _ => ?_))
      | exact ih0 _ _ _ _ _ _
      | exact ih1 _ _ _ _ _ _ _ _
      | exact ih2 _ _ _ _ _ _ _ _ _ _
      | exact ih3 _ _ _ _ _ _ _ _ _ _ _ _
      | exact ih4 _ _ _ _ _ _ _ _ _ _ _
      | exact graph_Check.mono _ _ _
      | exact walk_outs.mono _ _ _
      | exact walk_round.mono _ _ _ _
      | exact LeO.none _
      | refine LeO.ite ?_ ?_
      | refine LeO.bind ?_ (fun _ => ?_)
set_option maxHeartbeats 8000000 in
set_option maxRecDepth 100000 in
theorem walk_Order.calls (k : Nat) (a0_0 : Int) (A0_1 : Option Addr) (c0_1 : Nat) (l0_1 : List (S41)) (r1 : List Int) (r2 : List Int) (r3 : Int) (w : World) (hr0_1 : Kd.C k41 w A0_1 l0_1.length l0_1) (hc0_1 : l0_1.length ≤ c0_1) (h : walk_Order.f k a0_0 l0_1 = some (r1, r2, r3)) :
    Calls Try.prog 16 #[.agg #[.int .i64 a0_0, .slice A0_1 l0_1.length c0_1]] w fun e w' => ∃ v0_ v1_ : Value, e = .returned (.tuple #[v0_, v1_, .int .i64 r3]) ∧ Kd.R (Kd.int .i64) 3 w' w.heap.size (fun k_ => some k_ ≠ (v1_ : Value).ownBlock) v0_ r1 ∧ Kd.R (Kd.int .i64) 3 w' w.heap.size (fun k_ => some k_ ≠ (v0_ : Value).ownBlock) v1_ r2 ∧ Below w.heap.size w w' := by
 have hu24 := Try.underlying24
 have hu50 := Try.underlying50
 have hu41 := Try.underlying41
 have HR0_1 := ak hr0_1
 have HC0_1 := ak hc0_1
 clear hr0_1 hc0_1
 have HB := ak (Below.refl w.heap.size w)
 have H : ((graph_Check.f k a0_0 l0_1).bind fun bt176 => (if bt176.1 = 0 then (if 0 ≤ a0_0 then (if (a0_0 : Int).toNat ≤ 35184372088832 then (walk_Order.l0 k (List.replicate (a0_0 : Int).toNat 0) l0_1 (l0_1.length : Int) 0 a0_0 l0_1) else (none)) else (none)) else (some (([] : List Int), ([] : List Int), bt176.1)))) = some (r1, r2, r3) := h
 clear h
 replace H := Option.bind_eq_some_iff.mp H
 obtain ⟨⟨t176, t177⟩, A20, H⟩ := H
 replace H : (if t176 = 0 then (if 0 ≤ a0_0 then (if (a0_0 : Int).toNat ≤ 35184372088832 then (walk_Order.l0 k (List.replicate (a0_0 : Int).toNat 0) l0_1 (l0_1.length : Int) 0 a0_0 l0_1) else (none)) else (none)) else (some (([] : List Int), ([] : List Int), t176))) = some (r1, r2, r3) := H
 have A2 := ak A20
 clear A20
 by_cases c3 : t176 = 0
 ·
  rw [if_pos c3] at H
  have c3b0 : (t176 == 0) = true := beq_iff_eq.mpr c3
  have c3b1 : (t176 != 0) = false := bne_eq_false_iff_eq.mpr c3
  clear c3
  by_cases c4 : 0 ≤ a0_0
  rotate_left
  ·
   rw [if_neg c4] at H
   exact absurd H (by simp)
  rw [if_pos c4] at H
  have c4b0 := eq_true c4
  have c4b1 : decide (0 ≤ a0_0) = true := decide_eq_true c4
  clear c4
  by_cases c5 : (a0_0 : Int).toNat ≤ 35184372088832
  rotate_left
  ·
   rw [if_neg c5] at H
   exact absurd H (by simp)
  rw [if_pos c5] at H
  have c5b0 := eq_true c5
  have c5b1 : decide ((a0_0 : Int).toNat ≤ 35184372088832) = true := decide_eq_true c5
  clear c5
  obtain ⟨y179, hy179⟩ : ∃ y_ : List Int, y_ = (List.replicate (a0_0 : Int).toNat 0) := ⟨_, rfl⟩
  replace H : (walk_Order.l0 k y179 l0_1 (l0_1.length : Int) 0 a0_0 l0_1) = some (r1, r2, r3) := by first | (rw [hy179]; exact H) | exact H
  have Ny179 := ak hy179
  clear hy179
  have H' := ak H
  clear H
  go_enter Try.func16, Try.ntmps16
  go_wp2_with (first | go_step3 | (with_reducible refine Eq.mpr Exit.noGoto_normal ?_) | (with_reducible refine Eq.mpr Exit.noGoto_ret ?_) | (with_reducible refine Eq.mpr (Exit.noGoto_exit _) ?_) | ((with_reducible refine gate_dst (N := 1) rfl ?_); refine box_event ?hg (N := 1) ?hd (cs := #[.int .i64 a0_0, .slice A0_1 l0_1.length c0_1]) (t := 24) ?hr ?_; (case hd => rfl); (case hg => rfl); (case hr => first | (go_simp; done) | (go_simp; rfl)); intro gb175 hg w6 hbox hb; have n0_ := ak (below_step lb hb); have n1_ := ak (hbox); have n2_ := ak ((by rw [hg]; exact (below_size lb) : w.heap.size ≤ gb175)); have n3_ := ak ((by rw [hg]; exact (below_size lb) : w.heap.size ≤ gb175)); clear HB; have HB := n0_; have BK175 := n1_; have GW175 := n2_; have GE175 := n3_; clear n0_ n1_ n2_ n3_; clear hb hbox hg; have hcz7_0 : w6.cell? ⟨gb175, 0, none⟩ = some (.int .i64 a0_0) := (blk_cell BK175.out 0).trans rfl; have hcz7_1 : w6.cell? ⟨gb175, 1, none⟩ = some (.slice A0_1 l0_1.length c0_1) := (blk_cell BK175.out 1).trans rfl; have hfz7_0 := blk_frozen BK175.out 0; have hfz7_1 := blk_frozen BK175.out 1) | (go_at_call 29; (with_reducible refine (graph_Check.calls k a0_0 _ _ l0_1 t176 t177 _ ?side1 ?side2 A2.out).mono ?_); (case side1 => repeat (first | exact (Kd.C_below HR0_1.out HB.out) | (with_reducible refine Kd.C_alloc ?_ _) | (with_reducible refine Kd.C_drewN ?_ _) | (with_reducible refine Kd.C_drew ?_))); (case side2 => exact HC0_1.out); rintro e w8 ⟨rfl, hb⟩; have n0_ := ak (blk_below (bx BK175.out) hb); have n1_ := ak (below_step lb hb); clear BK175; clear HB; have BK175 := n0_; have HB := n1_; clear n0_ n1_; (try clear hb); (try clear hb2); (try clear hk); (try clear hi)) | ((with_reducible refine gate_dst (N := 5) rfl ?_); refine box_event ?hg (N := 5) ?hd (cs := #[.int .i64 0, .int .i64 0]) (t := 50) ?hr ?_; (case hd => rfl); (case hg => rfl); (case hr => first | (go_simp; done) | (go_simp; rfl)); intro gb178 hg w9 hbox hb; have n0_ := ak (blk_below (bx BK175.out) hb); have n1_ := ak (below_step lb hb); have n2_ := ak (hbox); have n3_ := ak ((by rw [hg]; exact (below_size lb) : w.heap.size ≤ gb178)); have n4_ := ak ((by rw [hg]; exact (below_size lb) : w.heap.size ≤ gb178)); have n5_ := ak ((by rw [hg]; exact Nat.ne_of_lt (blk_lt (g := gb175) (o := .cells #[.int .i64 a0_0, .slice A0_1 l0_1.length c0_1] 24 (0, 0)) (bx BK175.out)) : gb175 ≠ gb178)); have n6_ := ak ((by rw [hg]; exact Nat.ne_of_gt (blk_lt (g := gb175) (o := .cells #[.int .i64 a0_0, .slice A0_1 l0_1.length c0_1] 24 (0, 0)) (bx BK175.out)) : gb178 ≠ gb175)); clear BK175; clear HB; have BK175 := n0_; have HB := n1_; have BK178 := n2_; have GW178 := n3_; have GE178 := n4_; have NB175_178 := n5_; have NB178_175 := n6_; clear n0_ n1_ n2_ n3_ n4_ n5_ n6_; clear hb hbox hg; have hnb10 := NB178_175.out; have hnc10 := NB175_178.out; have hcz11_0 : w9.cell? ⟨gb178, 0, none⟩ = some (.int .i64 0) := (blk_cell BK178.out 0).trans rfl; have hcz11_1 : w9.cell? ⟨gb178, 1, none⟩ = some (.int .i64 0) := (blk_cell BK178.out 1).trans rfl; have hfz11_0 := blk_frozen BK178.out 0; have hfz11_1 := blk_frozen BK178.out 1; have hcz12_0 : w9.cell? ⟨gb175, 0, none⟩ = some (.int .i64 a0_0) := (blk_cell BK175.out 0).trans rfl; have hcz12_1 : w9.cell? ⟨gb175, 1, none⟩ = some (.slice A0_1 l0_1.length c0_1) := (blk_cell BK175.out 1).trans rfl; have hfz12_0 := blk_frozen BK175.out 0; have hfz12_1 := blk_frozen BK175.out 1) | ((with_reducible refine gate_dst (N := 23) rfl ?_); refine Kd.R_make (Kd.int .i64) _ 3 rfl (N := 23) rfl 26 _ _ rfl a0_0 rfl rfl Try.underlying26 (.int .i64 0) 8 info3 rfl (by decide) (by omega) 0 (ok := fun _ => True) (okp := fun _ => True) rfl (fun _ hk => hk) trivial (oda) (Nat.le_trans (Nat.mul_le_mul_right _ (oda : a0_0.toNat ≤ 35184372088832)) (by omega)) (Below.refl _ _) (Nat.le_refl _) ?_; intro v180 w13 ho14 hb hg_ hnew_; clear hg_ hnew_; (first | rw [← Ny179.out] at ho14 | (simp only [Int.reduceToNat] at ho14; rw [← Ny179.out] at ho14)); have n0_ := ak (Kd.R_lower ho14 (below_size lb)); have n1_ := ak (blk_below (g := gb175) (o := .cells #[.int .i64 a0_0, .slice A0_1 l0_1.length c0_1] 24 (0, 0)) (by (with_reducible repeat (first | refine blk_drewN ?_ _ | refine blk_drew ?_ | refine blk_alloc ?_ _)); refine blk_far ?_ NB175_178.out _; (with_reducible repeat (first | refine blk_drewN ?_ _ | refine blk_drew ?_ | refine blk_alloc ?_ _)); refine blk_far ?_ NB175_178.out _; exact bx BK175.out) hb); have n2_ := ak (blk_below (g := gb178) (o := .cells #[.int .i64 t176, .int .i64 t177] 50 (0, 0)) (by (with_reducible repeat (first | refine blk_drewN ?_ _ | refine blk_drew ?_ | refine blk_alloc ?_ _)); refine blk_put (cs := #[.int .i64 t176, .int .i64 0]) ?_ 1 _ rfl; (with_reducible repeat (first | refine blk_drewN ?_ _ | refine blk_drew ?_ | refine blk_alloc ?_ _)); refine blk_put (cs := #[.int .i64 0, .int .i64 0]) ?_ 0 _ rfl; exact bx BK178.out) hb); have n3_ := ak (below_step lb hb); clear BK175; clear BK178; clear HB; have HO181 := n0_; have BK175 := n1_; have BK178 := n2_; have HB := n3_; clear n0_ n1_ n2_ n3_; clear hb ho14; have hcz15_0 : w13.cell? ⟨gb175, 0, none⟩ = some (.int .i64 a0_0) := (blk_cell BK175.out 0).trans rfl; have hcz15_1 : w13.cell? ⟨gb175, 1, none⟩ = some (.slice A0_1 l0_1.length c0_1) := (blk_cell BK175.out 1).trans rfl; have hfz15_0 := blk_frozen BK175.out 0; have hfz15_1 := blk_frozen BK175.out 1))
  go_loopg [27] k (fun kq v27 w' => ∃ (x6_1 : List Int) (x27_1 : Int), v27 = .int .i64 x27_1 ∧ Aside0 (walk_Order.l0 kq x6_1 l0_1 (l0_1.length : Int) x27_1 a0_0 l0_1 = some (r1, r2, r3)) ∧ Aside0 (kq ≤ k) ∧ Aside0 (Kd.R (Kd.int .i64) 3 w' w.heap.size (fun _ => True) v180 x6_1) ∧ Aside0 (w'.heap[gb175]? = some (.cells #[.int .i64 a0_0, (.slice A0_1 l0_1.length c0_1)] 24 (0, 0))) ∧ Aside0 (w'.heap[gb178]? = some (.cells #[.int .i64 t176, .int .i64 t177] 50 (0, 0))) ∧ Aside0 (Below w.heap.size w w'))
  case atStart => exact ⟨(y179), (0), (by first | rfl | (simp [*]; done)), H', ⟨Nat.le_refl _⟩, ⟨rx HO181.out⟩, ⟨bx BK175.out⟩, ⟨bx BK178.out⟩, ⟨lb⟩⟩
  case round =>
   clear H'
   try clear c1; try clear p2; try clear c3; try clear c3b0; try clear c3b1; try clear c4; try clear c4b0; try clear c4b1; try clear c5; try clear c5b0; try clear c5b1; try clear c10; try clear hcz11_0; try clear hcz11_1; try clear hcz12_0; try clear hcz12_1; try clear hcz15_0; try clear hcz15_1; try clear hcz7_0; try clear hcz7_1; try clear hfz11_0; try clear hfz11_1; try clear hfz12_0; try clear hfz12_1; try clear hfz15_0; try clear hfz15_1; try clear hfz7_0; try clear hfz7_1
   obtain ⟨x6_1, x27_1, rfl, HA, HK1, HO_6, BK175, BK178, HB⟩ := hrel
   cases gk with
   | zero => exact absurd HA.out (by simp [walk_Order.l0])
   | succ k1 =>
    have H := HA.out
    clear HA
    simp only [walk_Order.l0] at H
    by_cases c16 : x27_1 < (l0_1.length : Int)
    ·
     rw [if_pos c16] at H
     have c16b0 : decide (x27_1 < (l0_1.length : Int)) = true := decide_eq_true c16
     clear c16
     by_cases c17 : 0 ≤ x27_1
     rotate_left
     ·
      rw [if_neg c17] at H
      exact absurd H (by simp)
     rw [if_pos c17] at H
     have c17b0 : decide (0 ≤ x27_1) = true := decide_eq_true c17
     clear c17
     by_cases c18 : x27_1 < (l0_1.length : Int)
     rotate_left
     ·
      rw [if_neg c18] at H
      exact absurd H (by simp)
     rw [if_pos c18] at H
     have c18b0 : decide (x27_1 < (l0_1.length : Int)) = true := decide_eq_true c18
     clear c18
     by_cases c19 : 0 ≤ ((rd_T41 l0_1 x27_1).f1)
     rotate_left
     ·
      rw [if_neg c19] at H
      exact absurd H (by simp)
     rw [if_pos c19] at H
     have c19b0 : decide (0 ≤ ((rd_T41 l0_1 x27_1).f1)) = true := decide_eq_true c19
     clear c19
     by_cases c20 : ((rd_T41 l0_1 x27_1).f1) < (x6_1.length : Int)
     rotate_left
     ·
      rw [if_neg c20] at H
      exact absurd H (by simp)
     rw [if_pos c20] at H
     have c20b0 : decide (((rd_T41 l0_1 x27_1).f1) < (x6_1.length : Int)) = true := decide_eq_true c20
     clear c20
     obtain ⟨y185, hy185⟩ : ∃ y_ : List Int, y_ = (x6_1.set (((rd_T41 l0_1 x27_1).f1) : Int).toNat (wrap64 ((rd x6_1 ((rd_T41 l0_1 x27_1).f1)) + 1))) := ⟨_, rfl⟩
     replace H : (walk_Order.l0 k1 y185 l0_1 (l0_1.length : Int) (wrap64 (x27_1 + 1)) a0_0 l0_1) = some (r1, r2, r3) := by first | (rw [hy185]; exact H) | exact H
     have Ny185 := ak hy185
     clear hy185
     have H' := ak H
     clear H
     have p182 : 0 ≤ (x27_1 : Int) := oda
     have q182 : x27_1 < (l0_1.length : Int) := oda
     obtain ⟨ad182, e182, hx182_0, hx182_1, hx182_2, hx182_3⟩ := at_T41 HR0_1.out x27_1 p182 q182
     cases e182
     (try replace hx182_0 := (HB.out.cell (World.block_lt_of_cell? w _ hx182_0)).trans hx182_0)
     (try replace hx182_1 := (HB.out.cell (World.block_lt_of_cell? w _ hx182_1)).trans hx182_1)
     (try replace hx182_2 := (HB.out.cell (World.block_lt_of_cell? w _ hx182_2)).trans hx182_2)
     (try replace hx182_3 := (HB.out.cell (World.block_lt_of_cell? w _ hx182_3)).trans hx182_3)
     replace p182 := eq_true p182
     replace q182 := eq_true q182
     go_wp2_with (first | go_step3 | (with_reducible refine Eq.mpr Exit.noGoto_normal ?_) | (with_reducible refine Eq.mpr Exit.noGoto_ret ?_) | (with_reducible refine Eq.mpr (Exit.noGoto_exit _) ?_) | ((with_reducible refine gate_dst (N := 8) rfl ?_); refine box_event ?hg (N := 8) ?hd (cs := #[.int .i64 0, .int .i64 0, .int .i64 0, .int .i64 0]) (t := 41) ?hr ?_; (case hd => rfl); (case hg => rfl); (case hr => first | (go_simp; done) | (go_simp; rfl)); intro gb183 hg w22 hbox hb; have n0_ := ak (Kd.R_below (rx HO_6.out) hb); have n1_ := ak (blk_below (bx BK175.out) hb); have n2_ := ak (blk_below (bx BK178.out) hb); have n3_ := ak (below_step lb hb); have n4_ := ak (hbox); have n5_ := ak ((by rw [hg]; exact (below_size lb) : w.heap.size ≤ gb183)); have n6_ := ak ((by rw [hg]; exact (below_size lb) : w.heap.size ≤ gb183)); have n7_ := ak ((by rw [hg]; exact Nat.ne_of_lt (blk_lt (g := gb175) (o := .cells #[.int .i64 a0_0, .slice (some ad182) l0_1.length c0_1] 24 (0, 0)) (bx BK175.out)) : gb175 ≠ gb183)); have n8_ := ak ((by rw [hg]; exact Nat.ne_of_gt (blk_lt (g := gb175) (o := .cells #[.int .i64 a0_0, .slice (some ad182) l0_1.length c0_1] 24 (0, 0)) (bx BK175.out)) : gb183 ≠ gb175)); have n9_ := ak ((by rw [hg]; exact Nat.ne_of_lt (blk_lt (g := gb178) (o := .cells #[.int .i64 t176, .int .i64 t177] 50 (0, 0)) (bx BK178.out)) : gb178 ≠ gb183)); have n10_ := ak ((by rw [hg]; exact Nat.ne_of_gt (blk_lt (g := gb178) (o := .cells #[.int .i64 t176, .int .i64 t177] 50 (0, 0)) (bx BK178.out)) : gb183 ≠ gb178)); clear HO_6; clear BK175; clear BK178; clear HB; have HO_6 := n0_; have BK175 := n1_; have BK178 := n2_; have HB := n3_; have BK183 := n4_; have GW183 := n5_; have GE183 := n6_; have NB175_183 := n7_; have NB183_175 := n8_; have NB178_183 := n9_; have NB183_178 := n10_; clear n0_ n1_ n2_ n3_ n4_ n5_ n6_ n7_ n8_ n9_ n10_; clear hb hbox hg; have hnb23 := NB183_175.out; have hnc23 := NB175_183.out; have hnb24 := NB183_178.out; have hnc24 := NB178_183.out; have hcz25_0 : w22.cell? ⟨gb183, 0, none⟩ = some (.int .i64 0) := (blk_cell BK183.out 0).trans rfl; have hcz25_1 : w22.cell? ⟨gb183, 1, none⟩ = some (.int .i64 0) := (blk_cell BK183.out 1).trans rfl; have hcz25_2 : w22.cell? ⟨gb183, 2, none⟩ = some (.int .i64 0) := (blk_cell BK183.out 2).trans rfl; have hcz25_3 : w22.cell? ⟨gb183, 3, none⟩ = some (.int .i64 0) := (blk_cell BK183.out 3).trans rfl; have hfz25_0 := blk_frozen BK183.out 0; have hfz25_1 := blk_frozen BK183.out 1; have hfz25_2 := blk_frozen BK183.out 2; have hfz25_3 := blk_frozen BK183.out 3) | ((with_reducible refine gate_store (t := 41) (p := 8) rfl ?_); (try (rw [drewN_self w22]; generalize hq_ : World.drewN w22 _ = w22; have n0_ := ak (Kd.R_at hq_ HO_6.out); have n1_ := ak (blk_at hq_ BK175.out); have n2_ := ak (blk_at hq_ BK178.out); have n3_ := ak (blk_at hq_ BK183.out); have n4_ := ak (below_at hq_ HB.out); clear hq_ HO_6 BK175 BK178 BK183 HB; have HO_6 := n0_; have BK175 := n1_; have BK178 := n2_; have BK183 := n3_; have HB := n4_; clear n0_ n1_ n2_ n3_ n4_)); refine store_event (t := 41) (p := 8) (v := ?vo_w26) (w1 := ((((w22.setCell ⟨gb183, 0, none⟩ (.int .i64 ((rd_T41 l0_1 x27_1).f0))).setCell ⟨gb183, 1, none⟩ (.int .i64 ((rd_T41 l0_1 x27_1).f1))).setCell ⟨gb183, 2, none⟩ (.int .i64 ((rd_T41 l0_1 x27_1).f2))).setCell ⟨gb183, 3, none⟩ (.int .i64 ((rd_T41 l0_1 x27_1).f3)))) ?hg ?ho ?hn ?hr ?_; (case ho => rfl); (case hg => rfl); (case hn => rfl); (case hr => first | (go_simp; done) | (go_simp; rfl)); intro w26 hw; have n0_ : Aside0 (Kd.R (Kd.int .i64) 3 w26 w.heap.size (fun _ => True) v180 x6_1) := ⟨(by rw [hw]; exact (by exact rx (Kd.R_mono (Kd.R_far (p := ⟨gb183, 3, none⟩) (Kd.R_far (p := ⟨gb183, 2, none⟩) (Kd.R_far (p := ⟨gb183, 1, none⟩) (Kd.R_far (p := ⟨gb183, 0, none⟩) (Kd.R_types HO_6.out BK183.out (by decide)) (fun _ hk => hk.2) (.int .i64 ((rd_T41 l0_1 x27_1).f0))) (fun _ hk => hk.2) (.int .i64 ((rd_T41 l0_1 x27_1).f1))) (fun _ hk => hk.2) (.int .i64 ((rd_T41 l0_1 x27_1).f2))) (fun _ hk => hk.2) (.int .i64 ((rd_T41 l0_1 x27_1).f3))) (fun _ hk => trivial))))⟩; have n1_ : Aside0 (w26.heap[gb175]? = some (.cells #[.int .i64 a0_0, .slice (some ad182) l0_1.length c0_1] 24 (0, 0))) := ⟨(by rw [hw]; exact (by (with_reducible repeat (first | refine blk_drewN ?_ _ | refine blk_drew ?_ | refine blk_alloc ?_ _)); refine blk_far ?_ NB175_183.out _; (with_reducible repeat (first | refine blk_drewN ?_ _ | refine blk_drew ?_ | refine blk_alloc ?_ _)); refine blk_far ?_ NB175_183.out _; (with_reducible repeat (first | refine blk_drewN ?_ _ | refine blk_drew ?_ | refine blk_alloc ?_ _)); refine blk_far ?_ NB175_183.out _; (with_reducible repeat (first | refine blk_drewN ?_ _ | refine blk_drew ?_ | refine blk_alloc ?_ _)); refine blk_far ?_ NB175_183.out _; exact bx BK175.out))⟩; have n2_ : Aside0 (w26.heap[gb178]? = some (.cells #[.int .i64 t176, .int .i64 t177] 50 (0, 0))) := ⟨(by rw [hw]; exact (by (with_reducible repeat (first | refine blk_drewN ?_ _ | refine blk_drew ?_ | refine blk_alloc ?_ _)); refine blk_far ?_ NB178_183.out _; (with_reducible repeat (first | refine blk_drewN ?_ _ | refine blk_drew ?_ | refine blk_alloc ?_ _)); refine blk_far ?_ NB178_183.out _; (with_reducible repeat (first | refine blk_drewN ?_ _ | refine blk_drew ?_ | refine blk_alloc ?_ _)); refine blk_far ?_ NB178_183.out _; (with_reducible repeat (first | refine blk_drewN ?_ _ | refine blk_drew ?_ | refine blk_alloc ?_ _)); refine blk_far ?_ NB178_183.out _; exact bx BK178.out))⟩; have n3_ : Aside0 (w26.heap[gb183]? = some (.cells #[.int .i64 ((rd_T41 l0_1 x27_1).f0), .int .i64 ((rd_T41 l0_1 x27_1).f1), .int .i64 ((rd_T41 l0_1 x27_1).f2), .int .i64 ((rd_T41 l0_1 x27_1).f3)] 41 (0, 0))) := ⟨(by rw [hw]; exact (by (with_reducible repeat (first | refine blk_drewN ?_ _ | refine blk_drew ?_ | refine blk_alloc ?_ _)); refine blk_put (cs := #[.int .i64 ((rd_T41 l0_1 x27_1).f0), .int .i64 ((rd_T41 l0_1 x27_1).f1), .int .i64 ((rd_T41 l0_1 x27_1).f2), .int .i64 0]) ?_ 3 _ rfl; (with_reducible repeat (first | refine blk_drewN ?_ _ | refine blk_drew ?_ | refine blk_alloc ?_ _)); refine blk_put (cs := #[.int .i64 ((rd_T41 l0_1 x27_1).f0), .int .i64 ((rd_T41 l0_1 x27_1).f1), .int .i64 0, .int .i64 0]) ?_ 2 _ rfl; (with_reducible repeat (first | refine blk_drewN ?_ _ | refine blk_drew ?_ | refine blk_alloc ?_ _)); refine blk_put (cs := #[.int .i64 ((rd_T41 l0_1 x27_1).f0), .int .i64 0, .int .i64 0, .int .i64 0]) ?_ 1 _ rfl; (with_reducible repeat (first | refine blk_drewN ?_ _ | refine blk_drew ?_ | refine blk_alloc ?_ _)); refine blk_put (cs := #[.int .i64 0, .int .i64 0, .int .i64 0, .int .i64 0]) ?_ 0 _ rfl; exact bx BK183.out))⟩; have n4_ : Aside0 (Below w.heap.size w w26) := ⟨(by rw [hw]; exact lb)⟩; clear hw; clear HO_6; clear BK175; clear BK178; clear BK183; clear HB; have HO_6 := n0_; have BK175 := n1_; have BK178 := n2_; have BK183 := n3_; have HB := n4_; clear n0_ n1_ n2_ n3_ n4_; have hcz27_0 : w26.cell? ⟨gb183, 0, none⟩ = some (.int .i64 ((rd_T41 l0_1 x27_1).f0)) := (blk_cell BK183.out 0).trans rfl; have hcz27_1 : w26.cell? ⟨gb183, 1, none⟩ = some (.int .i64 ((rd_T41 l0_1 x27_1).f1)) := (blk_cell BK183.out 1).trans rfl; have hcz27_2 : w26.cell? ⟨gb183, 2, none⟩ = some (.int .i64 ((rd_T41 l0_1 x27_1).f2)) := (blk_cell BK183.out 2).trans rfl; have hcz27_3 : w26.cell? ⟨gb183, 3, none⟩ = some (.int .i64 ((rd_T41 l0_1 x27_1).f3)) := (blk_cell BK183.out 3).trans rfl; have hfz27_0 := blk_frozen BK183.out 0; have hfz27_1 := blk_frozen BK183.out 1; have hfz27_2 := blk_frozen BK183.out 2; have hfz27_3 := blk_frozen BK183.out 3; obtain ⟨Ao28, co28, eo28⟩ := Kd.R_slice HO_6.out; subst eo28; have p184 : 0 ≤ (((rd_T41 l0_1 x27_1).f1) : Int) := oda; have q184 : ((rd_T41 l0_1 x27_1).f1) < (x6_1.length : Int) := oda; obtain ⟨ad184, e184, hx184_0⟩ := Kd.at_int (Kd.R_reads' HO_6.out).2.2 ((rd_T41 l0_1 x27_1).f1) p184 q184; cases e184; replace p184 := eq_true p184; replace q184 := eq_true q184; have p21 : 0 ≤ (((rd_T41 l0_1 x27_1).f1) : Int) := oda; have q21 : (((rd_T41 l0_1 x27_1).f1) : Int) < ((x6_1.length : Int) : Int) := oda; obtain ⟨go21, co21, eo21, gb21, gl21, cl21, HG21⟩ := Kd.R_form HO_6.out (by omega); (first | cases eo21 | (injection eo21 with ea_ en_ ec_; (first | subst ea_ | (injection ea_ with ea_; subst ea_)); subst ec_; clear en_)); have GB21 := ak gb21; have GG21 := ak HG21; clear gb21 gl21 HG21; (first | simp only [add_plain] at hx184_0 | skip); obtain ⟨hx21_0, hf21_0⟩ := Kd.R_celln 0 HO_6.out (((rd_T41 l0_1 x27_1).f1) : Int) p21 q21; replace p21 := eq_true p21; replace q21 := eq_true q21; obtain ⟨hy29_, hz29_⟩ := Kd.R_celln 0 HO_6.out (((rd_T41 l0_1 x27_1).f1) : Int) (oda) (oda); have HP29 := Kd.R_putg HO_6.out (((rd_T41 l0_1 x27_1).f1) : Int) (wrap64 ((rd x6_1 ((rd_T41 l0_1 x27_1).f1)) + 1))) | ((with_reducible refine gate_store (t := 3) (p := 37) rfl ?_); (try (rw [drewN_self w26]; generalize hq_ : World.drewN w26 _ = w26; have n0_ := ak (Kd.R_at hq_ HO_6.out); have n1_ := ak (blk_at hq_ BK175.out); have n2_ := ak (blk_at hq_ BK178.out); have n3_ := ak (blk_at hq_ BK183.out); have n4_ := ak (below_at hq_ HB.out); clear hq_ HO_6 BK175 BK178 BK183 HB; have HO_6 := n0_; have BK175 := n1_; have BK178 := n2_; have BK183 := n3_; have HB := n4_; clear n0_ n1_ n2_ n3_ n4_; (try (obtain ⟨hy29_, hz29_⟩ := Kd.R_celln 0 HO_6.out (((rd_T41 l0_1 x27_1).f1) : Int) (oda) (oda))); (try (have HP29 := Kd.R_putg HO_6.out (((rd_T41 l0_1 x27_1).f1) : Int) (wrap64 ((rd x6_1 ((rd_T41 l0_1 x27_1).f1)) + 1)))))); refine store_event (t := 3) (p := 37) (v := ?vo_w30) (w1 := (w26.setCell ⟨go21, (((rd_T41 l0_1 x27_1).f1) : Int).toNat, none⟩ (.int .i64 (wrap64 ((rd x6_1 ((rd_T41 l0_1 x27_1).f1)) + 1))))) ?hg ?ho ?hn ?hr ?_; (case ho => rfl); (case hg => rfl); (case hn => rfl); (case hr => first | (go_simp; done) | (go_simp; rfl)); intro w30 hw; have hg : w26.grownBy w30 (some go21) := (by rw [hw]; exact HP29.2); have hp_ : Kd.R (Kd.int .i64) 3 w30 w.heap.size (fun _ => True) (.slice (some ⟨go21, 0, none⟩) x6_1.length co28) y185 := (by rw [hw, Ny185.out]; exact HP29.1); clear HP29; have n0_ := ak (hp_); have n1_ := ak (blk_grown (bx BK175.out) hg (Kd.R_ne HO_6.out BK175.out (by decide))); have n2_ := ak (blk_grown (bx BK178.out) hg (Kd.R_ne HO_6.out BK178.out (by decide))); have n3_ := ak (blk_grown (bx BK183.out) hg (Kd.R_ne HO_6.out BK183.out (by decide))); have n4_ := ak ((by rw [hw]; exact below_set (HB.out) GB21.out : Below w.heap.size w w30)); clear HO_6; clear BK175; clear BK178; clear BK183; clear HB; have HO_6 := n0_; have BK175 := n1_; have BK178 := n2_; have BK183 := n3_; have HB := n4_; clear n0_ n1_ n2_ n3_ n4_; clear hg hw hp_))
     go_roundg k1
     case measure => have := HK1.out; omega
     case rel => exact ⟨(y185), (wrap64 (x27_1 + 1)), (by first | rfl | (simp [*]; done)), H', ⟨by have := HK1.out; omega⟩, ⟨rx HO_6.out⟩, ⟨bx BK175.out⟩, ⟨bx BK178.out⟩, ⟨lb⟩⟩
    ·
     rw [if_neg c16] at H
     have c16b0 : decide (x27_1 < (l0_1.length : Int)) = false := decide_eq_false c16
     clear c16
     by_cases c31 : 0 ≤ a0_0
     rotate_left
     ·
      rw [if_neg c31] at H
      exact absurd H (by simp)
     rw [if_pos c31] at H
     have c31b0 := eq_true c31
     have c31b1 : decide (0 ≤ a0_0) = true := decide_eq_true c31
     clear c31
     by_cases c32 : (a0_0 : Int).toNat ≤ 281474976710656
     rotate_left
     ·
      rw [if_neg c32] at H
      exact absurd H (by simp)
     rw [if_pos c32] at H
     have c32b0 := eq_true c32
     have c32b1 : decide ((a0_0 : Int).toNat ≤ 281474976710656) = true := decide_eq_true c32
     clear c32
     obtain ⟨y186, hy186⟩ : ∃ y_ : List Bool, y_ = (List.replicate (a0_0 : Int).toNat false) := ⟨_, rfl⟩
     replace H : ((walk_outs.f k1 a0_0 l0_1).bind fun t189 => (walk_Order.l1 k1 ([] : List Int) x6_1 y186 t189 a0_0 0 a0_0 l0_1)) = some (r1, r2, r3) := by first | (rw [hy186]; exact H) | exact H
     have Ny186 := ak hy186
     clear hy186
     replace H := Option.bind_eq_some_iff.mp H
     obtain ⟨t189, A330, H⟩ := H
     replace H : (walk_Order.l1 k1 ([] : List Int) x6_1 y186 t189 a0_0 0 a0_0 l0_1) = some (r1, r2, r3) := H
     have A33 := ak A330
     clear A330
     have H' := ak H
     clear H
     have hnb34 := NB175_178.out
     have hnc34 := NB178_175.out
     have hcz35_0 : wr.cell? ⟨gb175, 0, none⟩ = some (.int .i64 a0_0) := (blk_cell BK175.out 0).trans rfl
     have hcz35_1 : wr.cell? ⟨gb175, 1, none⟩ = some (.slice A0_1 l0_1.length c0_1) := (blk_cell BK175.out 1).trans rfl
     have hfz35_0 := blk_frozen BK175.out 0
     have hfz35_1 := blk_frozen BK175.out 1
     go_wp2_with (first | go_step3 | (with_reducible refine Eq.mpr Exit.noGoto_normal ?_) | (with_reducible refine Eq.mpr Exit.noGoto_ret ?_) | (with_reducible refine Eq.mpr (Exit.noGoto_exit _) ?_) | ((with_reducible refine gate_dst (N := 41) rfl ?_); refine Kd.R_make Kd.bool _ 4 rfl (N := 41) rfl 39 _ _ rfl a0_0 rfl rfl Try.underlying39 (.bool false) 1 info4 rfl (by decide) (by omega) false (ok := fun _ => True) (okp := fun _ => True) rfl (fun _ hk => hk) trivial (oda) (Nat.le_trans (Nat.mul_le_mul_right _ (oda : a0_0.toNat ≤ 281474976710656)) (by omega)) (Below.refl _ _) (Nat.le_refl _) ?_; intro v187 w36 ho37 hb hg_ hnew_; clear hg_ hnew_; (first | rw [← Ny186.out] at ho37 | (simp only [Int.reduceToNat] at ho37; rw [← Ny186.out] at ho37)); have n0_ := ak (Kd.R_below (rx HO_6.out) hb); have n1_ := ak (Kd.R_lower ho37 (below_size lb)); have n2_ := ak (blk_below (bx BK175.out) hb); have n3_ := ak (blk_below (bx BK178.out) hb); have n4_ := ak (below_step lb hb); clear HO_6; clear BK175; clear BK178; clear HB; have HO_6 := n0_; have HO188 := n1_; have BK175 := n2_; have BK178 := n3_; have HB := n4_; clear n0_ n1_ n2_ n3_ n4_; clear hb ho37; have hcz38_0 : w36.cell? ⟨gb175, 0, none⟩ = some (.int .i64 a0_0) := (blk_cell BK175.out 0).trans rfl; have hcz38_1 : w36.cell? ⟨gb175, 1, none⟩ = some (.slice A0_1 l0_1.length c0_1) := (blk_cell BK175.out 1).trans rfl; have hfz38_0 := blk_frozen BK175.out 0; have hfz38_1 := blk_frozen BK175.out 1) | (go_at_call 30; (with_reducible refine (walk_outs.calls k1 a0_0 _ _ l0_1 t189 _ ?side1 ?side2 A33.out).mono ?_); (case side1 => repeat (first | exact (Kd.C_below HR0_1.out HB.out) | (with_reducible refine Kd.C_alloc ?_ _) | (with_reducible refine Kd.C_drewN ?_ _) | (with_reducible refine Kd.C_drew ?_))); (case side2 => exact HC0_1.out); rintro e w39 ⟨v190, rfl, ho0, hb⟩; have n0_ := ak (Kd.R_below (rx HO_6.out) hb); have n1_ := ak (Kd.R_below (rx HO188.out) hb); have n2_ := ak (Kd.S_lower (Kd.S_new' ho0 (Kd.R_lt (rx HO_6.out))) (below_size lb)); have n3_ := ak (blk_below (bx BK175.out) hb); have n4_ := ak (blk_below (bx BK178.out) hb); have n5_ := ak (below_step lb hb); clear HO_6; clear HO188; clear BK175; clear BK178; clear HB; have HO_6 := n0_; have HO188 := n1_; have HO191 := n2_; have BK175 := n3_; have BK178 := n4_; have HB := n5_; clear n0_ n1_ n2_ n3_ n4_ n5_; (try clear hb); (try clear hb2); (try clear hk); (try clear hi); (try clear ho0); have hcz40_0 : w39.cell? ⟨gb175, 0, none⟩ = some (.int .i64 a0_0) := (blk_cell BK175.out 0).trans rfl; have hcz40_1 : w39.cell? ⟨gb175, 1, none⟩ = some (.slice A0_1 l0_1.length c0_1) := (blk_cell BK175.out 1).trans rfl; have hfz40_0 := blk_frozen BK175.out 0; have hfz40_1 := blk_frozen BK175.out 1))
     go_loopg [2, 46] k1 (fun kq v2 v46 w' => ∃ (x2_2 : List Int) (x6_2 : List Int) (x9_2 : List Bool) (x46_2 : Int), v46 = .int .i64 x46_2 ∧ Aside0 (walk_Order.l1 kq x2_2 x6_2 x9_2 t189 a0_0 x46_2 a0_0 l0_1 = some (r1, r2, r3)) ∧ Aside0 (kq ≤ k1) ∧ Aside0 (Kd.R (Kd.int .i64) 3 w' w.heap.size (fun k_ => some k_ ≠ (v180 : Value).ownBlock) v2 x2_2) ∧ Aside0 (Kd.R (Kd.int .i64) 3 w' w.heap.size (fun k_ => some k_ ≠ (v2 : Value).ownBlock) v180 x6_2) ∧ Aside0 (Kd.R Kd.bool 4 w' w.heap.size (fun _ => True) v187 x9_2) ∧ Aside0 (Kd.S (Kd.slice 3 (Kd.int .i64)) 26 w' w.heap.size (fun k_ => some k_ ≠ (v2 : Value).ownBlock ∧ some k_ ≠ (v180 : Value).ownBlock) v190 t189) ∧ Aside0 (w'.heap[gb175]? = some (.cells #[.int .i64 a0_0, (.slice A0_1 l0_1.length c0_1)] 24 (0, 0))) ∧ Aside0 (w'.heap[gb178]? = some (.cells #[.int .i64 t176, .int .i64 t177] 50 (0, 0))) ∧ Aside0 (Below w.heap.size w w'))
     case atStart => exact ⟨(([] : List Int)), (x6_1), (y186), (0), (by first | rfl | (simp [*]; done)), H', ⟨Nat.le_refl _⟩, ⟨by first | exact Kd.R_nil _ _ _ _ _ | exact Kd.N_nil _ _ _ _ _ | exact Kd.V_nil _ _ _ _ _ | exact Kd.Q_nil _ _ _ _ _ | exact Kd.S_nil _ _ _ _ _⟩, ⟨by exact rx (Kd.R_mono HO_6.out (fun _ hk => (by simp [Value.ownBlock])))⟩, ⟨rx HO188.out⟩, ⟨by exact sx (Kd.S_mono HO191.out (fun _ hk => ⟨(by simp [Value.ownBlock]), hk.2⟩))⟩, ⟨bx BK175.out⟩, ⟨bx BK178.out⟩, ⟨lb⟩⟩
     case round =>
      clear H'
      try clear c1; try clear p1; try clear q1; try clear hx1; try clear c2; try clear p2; try clear q2; try clear hx2; try clear hf2; try clear c3; try clear c3b0; try clear c3b1; try clear c4; try clear c4b0; try clear c4b1; try clear c5; try clear c5b0; try clear c5b1; try clear p6; try clear c10; try clear c16; try clear c16b0; try clear c17; try clear c17b0; try clear c18; try clear c18b0; try clear p18; try clear q18; try clear hx18; try clear c19; try clear c19b0; try clear c20; try clear c20b0; try clear p21; try clear q21; try clear hx21; try clear hf21; try clear c23; try clear c24; try clear c31; try clear c31b0; try clear c31b1; try clear c32; try clear c32b0; try clear c32b1; try clear c34; try clear hcz11_0; try clear hcz11_1; try clear hcz12_0; try clear hcz12_1; try clear hcz15_0; try clear hcz15_1; try clear hcz25_0; try clear hcz25_1; try clear hcz25_2; try clear hcz25_3; try clear hcz27_0; try clear hcz27_1; try clear hcz27_2; try clear hcz27_3; try clear hcz35_0; try clear hcz35_1; try clear hcz38_0; try clear hcz38_1; try clear hcz40_0; try clear hcz40_1; try clear hcz7_0; try clear hcz7_1; try clear hfz11_0; try clear hfz11_1; try clear hfz12_0; try clear hfz12_1; try clear hfz15_0; try clear hfz15_1; try clear hfz25_0; try clear hfz25_1; try clear hfz25_2; try clear hfz25_3; try clear hfz27_0; try clear hfz27_1; try clear hfz27_2; try clear hfz27_3; try clear hfz35_0; try clear hfz35_1; try clear hfz38_0; try clear hfz38_1; try clear hfz40_0; try clear hfz40_1; try clear hfz7_0; try clear hfz7_1; try clear hx182_0; try clear hx182_1; try clear hx182_2; try clear hx182_3; try clear hx184_0; try clear hx21_0; try clear p182; try clear p184; try clear p2; try clear p21; try clear q182; try clear q184; try clear q21
      obtain ⟨x2_2, x6_2, x9_2, x46_2, rfl, HA, HK2, HO_2, HO_6, HO_9, HO_10, BK175, BK178, HB⟩ := hrel
      cases gk with
      | zero => exact absurd HA.out (by simp [walk_Order.l1])
      | succ k2 =>
       have H := HA.out
       clear HA
       simp only [walk_Order.l1] at H
       by_cases c41 : x46_2 < a0_0
       ·
        rw [if_pos c41] at H
        have c41b0 : decide (x46_2 < a0_0) = true := decide_eq_true c41
        clear c41
        have H' := ak H
        clear H
        have hnb42 := NB175_178.out
        have hnc42 := NB178_175.out
        have hcz43_0 : wr.cell? ⟨gb175, 0, none⟩ = some (.int .i64 a0_0) := (blk_cell BK175.out 0).trans rfl
        have hcz43_1 : wr.cell? ⟨gb175, 1, none⟩ = some (.slice A0_1 l0_1.length c0_1) := (blk_cell BK175.out 1).trans rfl
        have hfz43_0 := blk_frozen BK175.out 0
        have hfz43_1 := blk_frozen BK175.out 1
        go_wp2_with (first | go_step3 | (with_reducible refine Eq.mpr Exit.noGoto_normal ?_) | (with_reducible refine Eq.mpr Exit.noGoto_ret ?_) | (with_reducible refine Eq.mpr (Exit.noGoto_exit _) ?_))
        repeat (go_quiet (fail); try go_wp2_with (first | go_step3 | (with_reducible refine Eq.mpr Exit.noGoto_normal ?_) | (with_reducible refine Eq.mpr Exit.noGoto_ret ?_) | (with_reducible refine Eq.mpr (Exit.noGoto_exit _) ?_)))
        go_loopg [2, 50] k2 (fun kq v2 v50 w' => ∃ (x2_3 : List Int) (x6_3 : List Int) (x9_3 : List Bool) (x50_3 : Int), v50 = .int .i64 x50_3 ∧ Aside0 (walk_Order.l2 kq x2_3 x6_3 x9_3 t189 a0_0 x46_2 a0_0 x50_3 a0_0 l0_1 = some (r1, r2, r3)) ∧ Aside0 (kq ≤ k2) ∧ Aside0 (Kd.R (Kd.int .i64) 3 w' w.heap.size (fun k_ => some k_ ≠ (v180 : Value).ownBlock) v2 x2_3) ∧ Aside0 (Kd.R (Kd.int .i64) 3 w' w.heap.size (fun k_ => some k_ ≠ (v2 : Value).ownBlock) v180 x6_3) ∧ Aside0 (Kd.R Kd.bool 4 w' w.heap.size (fun _ => True) v187 x9_3) ∧ Aside0 (Kd.S (Kd.slice 3 (Kd.int .i64)) 26 w' w.heap.size (fun k_ => some k_ ≠ (v2 : Value).ownBlock ∧ some k_ ≠ (v180 : Value).ownBlock) v190 t189) ∧ Aside0 (w'.heap[gb175]? = some (.cells #[.int .i64 a0_0, (.slice A0_1 l0_1.length c0_1)] 24 (0, 0))) ∧ Aside0 (w'.heap[gb178]? = some (.cells #[.int .i64 t176, .int .i64 t177] 50 (0, 0))) ∧ Aside0 (Below w.heap.size w w'))
        case atStart => exact ⟨(x2_2), (x6_2), (x9_2), (0), (by first | rfl | (simp [*]; done)), H', ⟨Nat.le_refl _⟩, ⟨rx HO_2.out⟩, ⟨rx HO_6.out⟩, ⟨rx HO_9.out⟩, ⟨sx HO_10.out⟩, ⟨bx BK175.out⟩, ⟨bx BK178.out⟩, ⟨lb⟩⟩
        case round =>
         clear H'
         try clear c1; try clear p1; try clear q1; try clear hx1; try clear c2; try clear p2; try clear q2; try clear hx2; try clear hf2; try clear c3; try clear c3b0; try clear c3b1; try clear c4; try clear c4b0; try clear c4b1; try clear c5; try clear c5b0; try clear c5b1; try clear p6; try clear c10; try clear c16; try clear c16b0; try clear c17; try clear c17b0; try clear c18; try clear c18b0; try clear p18; try clear q18; try clear hx18; try clear c19; try clear c19b0; try clear c20; try clear c20b0; try clear p21; try clear q21; try clear hx21; try clear hf21; try clear c23; try clear c24; try clear c31; try clear c31b0; try clear c31b1; try clear c32; try clear c32b0; try clear c32b1; try clear c34; try clear c41; try clear c41b0; try clear c42; try clear hcz11_0; try clear hcz11_1; try clear hcz12_0; try clear hcz12_1; try clear hcz15_0; try clear hcz15_1; try clear hcz25_0; try clear hcz25_1; try clear hcz25_2; try clear hcz25_3; try clear hcz27_0; try clear hcz27_1; try clear hcz27_2; try clear hcz27_3; try clear hcz35_0; try clear hcz35_1; try clear hcz38_0; try clear hcz38_1; try clear hcz40_0; try clear hcz40_1; try clear hcz43_0; try clear hcz43_1; try clear hcz7_0; try clear hcz7_1; try clear hfz11_0; try clear hfz11_1; try clear hfz12_0; try clear hfz12_1; try clear hfz15_0; try clear hfz15_1; try clear hfz25_0; try clear hfz25_1; try clear hfz25_2; try clear hfz25_3; try clear hfz27_0; try clear hfz27_1; try clear hfz27_2; try clear hfz27_3; try clear hfz35_0; try clear hfz35_1; try clear hfz38_0; try clear hfz38_1; try clear hfz40_0; try clear hfz40_1; try clear hfz43_0; try clear hfz43_1; try clear hfz7_0; try clear hfz7_1; try clear hx182_0; try clear hx182_1; try clear hx182_2; try clear hx182_3; try clear hx184_0; try clear hx21_0; try clear p1; try clear p18; try clear p182; try clear p184; try clear p2; try clear p21; try clear p6; try clear q1; try clear q18; try clear q182; try clear q184; try clear q2; try clear q21
         obtain ⟨x2_3, x6_3, x9_3, x50_3, rfl, HA, HK3, HO_2, HO_6, HO_9, HO_10, BK175, BK178, HB⟩ := hrel
         cases gk with
         | zero => exact absurd HA.out (by simp [walk_Order.l2])
         | succ k3 =>
          have H := HA.out
          clear HA
          simp only [walk_Order.l2] at H
          by_cases c44 : x50_3 < a0_0
          ·
           rw [if_pos c44] at H
           have c44b0 : decide (x50_3 < a0_0) = true := decide_eq_true c44
           clear c44
           have HC45 := ak H
           clear H
           go_upto_region 17 with (fail)
           repeat (go_quiet (fail); go_upto_region 17 with (fail))
           go_cut [64] (fun v64 wc => ∃ (kq : Nat) (x64_44 : Bool), v64 = .bool x64_44 ∧ Aside0 (walk_Order.j3 kq x2_3 x6_3 x9_3 t189 x50_3 a0_0 x46_2 a0_0 x50_3 x64_44 a0_0 l0_1 = some (r1, r2, r3)) ∧ Aside0 (kq ≤ k3) ∧ Aside0 (Kd.R (Kd.int .i64) 3 wc w.heap.size (fun k_ => some k_ ≠ (v180 : Value).ownBlock) u2 x2_3) ∧ Aside0 (Kd.R (Kd.int .i64) 3 wc w.heap.size (fun k_ => some k_ ≠ (u2 : Value).ownBlock) v180 x6_3) ∧ Aside0 (Kd.R Kd.bool 4 wc w.heap.size (fun _ => True) v187 x9_3) ∧ Aside0 (Kd.S (Kd.slice 3 (Kd.int .i64)) 26 wc w.heap.size (fun k_ => some k_ ≠ (u2 : Value).ownBlock ∧ some k_ ≠ (v180 : Value).ownBlock) v190 t189) ∧ Aside0 (wc.heap[gb175]? = some (.cells #[.int .i64 a0_0, (.slice A0_1 l0_1.length c0_1)] 24 (0, 0))) ∧ Aside0 (wc.heap[gb178]? = some (.cells #[.int .i64 t176, .int .i64 t177] 50 (0, 0))) ∧ Aside0 (Below w.heap.size w wc))
           case first =>
            have H := HC45.out
            clear HC45
            by_cases c46 : 0 ≤ x50_3
            rotate_left
            ·
             rw [if_neg c46] at H
             exact absurd H (by simp)
            rw [if_pos c46] at H
            have c46b0 : decide (0 ≤ x50_3) = true := decide_eq_true c46
            clear c46
            (first | rw [c46b0] | (simp only [i64_w, i32_w]; rw [c46b0]) | skip)
            by_cases c47 : x50_3 < (x9_3.length : Int)
            rotate_left
            ·
             rw [if_neg c47] at H
             exact absurd H (by simp)
            rw [if_pos c47] at H
            have c47b0 : decide (x50_3 < (x9_3.length : Int)) = true := decide_eq_true c47
            clear c47
            obtain ⟨bq48, hbq48⟩ : ∃ b_ : Bool, b_ = (rdOf false x9_3 x50_3) := ⟨_, rfl⟩
            replace H : (if bq48 = true then (walk_Order.j3 k3 x2_3 x6_3 x9_3 t189 x50_3 a0_0 x46_2 a0_0 x50_3 false a0_0 l0_1) else (if x50_3 < (x6_3.length : Int) then (walk_Order.j3 k3 x2_3 x6_3 x9_3 t189 x50_3 a0_0 x46_2 a0_0 x50_3 ((rd x6_3 x50_3) == 0) a0_0 l0_1) else (none))) = some (r1, r2, r3) := by rw [← hbq48] at H; exact H
            have Nbq48 := ak hbq48
            clear hbq48
            by_cases c49 : bq48 = true
            ·
             subst c49
             have H1 : (walk_Order.j3 k3 x2_3 x6_3 x9_3 t189 x50_3 a0_0 x46_2 a0_0 x50_3 false a0_0 l0_1) = some (r1, r2, r3) := by rw [if_pos rfl] at H; exact H
             clear H
             have H := H1
             clear H1
             have H' := ak H
             clear H
             obtain ⟨Ao50, co50, eo50⟩ := Kd.R_slice HO_9.out
             subst eo50
             have p195 : 0 ≤ (x50_3 : Int) := oda
             have q195 : x50_3 < (x9_3.length : Int) := oda
             obtain ⟨ad195, e195, hx195_0⟩ := Kd.at_bool (Kd.R_reads' HO_9.out).2.2 x50_3 p195 q195
             (try rw [← Nbq48.out] at hx195_0)
             cases e195
             replace p195 := eq_true p195
             replace q195 := eq_true q195
             go_wp2_with (first | go_step3 | (with_reducible refine Eq.mpr Exit.noGoto_normal ?_) | (with_reducible refine Eq.mpr Exit.noGoto_ret ?_) | (with_reducible refine Eq.mpr (Exit.noGoto_exit _) ?_))
             repeat (go_quiet (fail); try go_wp2_with (first | go_step3 | (with_reducible refine Eq.mpr Exit.noGoto_normal ?_) | (with_reducible refine Eq.mpr Exit.noGoto_ret ?_) | (with_reducible refine Eq.mpr (Exit.noGoto_exit _) ?_)))
             go_meet
             case rel => exact ⟨_, (false), (by first | rfl | (simp [*]; done)), H', ⟨by have := HK1.out; have := HK2.out; have := HK3.out; first | omega | exact Nat.le_refl _⟩, ⟨rx HO_2.out⟩, ⟨rx HO_6.out⟩, ⟨rx HO_9.out⟩, ⟨sx HO_10.out⟩, ⟨bx BK175.out⟩, ⟨bx BK178.out⟩, ⟨lb⟩⟩
            ·
             replace c49 := Bool.eq_false_iff.mpr c49
             subst c49
             have H1 : (if x50_3 < (x6_3.length : Int) then (walk_Order.j3 k3 x2_3 x6_3 x9_3 t189 x50_3 a0_0 x46_2 a0_0 x50_3 ((rd x6_3 x50_3) == 0) a0_0 l0_1) else (none)) = some (r1, r2, r3) := by rw [if_neg (show ¬ (false = true) by decide)] at H; exact H
             clear H
             have H := H1
             clear H1
             by_cases c51 : x50_3 < (x6_3.length : Int)
             rotate_left
             ·
              rw [if_neg c51] at H
              exact absurd H (by simp)
             rw [if_pos c51] at H
             have c51b0 : decide (x50_3 < (x6_3.length : Int)) = true := decide_eq_true c51
             clear c51
             have H' := ak H
             clear H
             obtain ⟨Ao52, co52, eo52⟩ := Kd.R_slice HO_9.out
             subst eo52
             have p195 : 0 ≤ (x50_3 : Int) := oda
             have q195 : x50_3 < (x9_3.length : Int) := oda
             obtain ⟨ad195, e195, hx195_0⟩ := Kd.at_bool (Kd.R_reads' HO_9.out).2.2 x50_3 p195 q195
             (try rw [← Nbq48.out] at hx195_0)
             cases e195
             replace p195 := eq_true p195
             replace q195 := eq_true q195
             obtain ⟨Ao53, co53, eo53⟩ := Kd.R_slice HO_6.out
             subst eo53
             have p196 : 0 ≤ (x50_3 : Int) := oda
             have q196 : x50_3 < (x6_3.length : Int) := oda
             obtain ⟨ad196, e196, hx196_0⟩ := Kd.at_int (Kd.R_reads' HO_6.out).2.2 x50_3 p196 q196
             cases e196
             replace p196 := eq_true p196
             replace q196 := eq_true q196
             go_wp2_with (first | go_step3 | (with_reducible refine Eq.mpr Exit.noGoto_normal ?_) | (with_reducible refine Eq.mpr Exit.noGoto_ret ?_) | (with_reducible refine Eq.mpr (Exit.noGoto_exit _) ?_))
             repeat (go_quiet (fail); try go_wp2_with (first | go_step3 | (with_reducible refine Eq.mpr Exit.noGoto_normal ?_) | (with_reducible refine Eq.mpr Exit.noGoto_ret ?_) | (with_reducible refine Eq.mpr (Exit.noGoto_exit _) ?_)))
             go_meet
             case rel => exact ⟨_, (((rd x6_3 x50_3) == 0)), (by first | rfl | (simp [*]; done)), H', ⟨by have := HK1.out; have := HK2.out; have := HK3.out; first | omega | exact Nat.le_refl _⟩, ⟨rx HO_2.out⟩, ⟨rx HO_6.out⟩, ⟨rx HO_9.out⟩, ⟨sx HO_10.out⟩, ⟨bx BK175.out⟩, ⟨bx BK178.out⟩, ⟨lb⟩⟩
           case rest =>
            clear HC45
            try clear c1; try clear p1; try clear q1; try clear hx1; try clear c2; try clear p2; try clear q2; try clear hx2; try clear hf2; try clear c3; try clear c3b0; try clear c3b1; try clear c4; try clear c4b0; try clear c4b1; try clear q4; try clear c5; try clear c5b0; try clear c5b1; try clear p6; try clear c10; try clear c16; try clear c16b0; try clear c17; try clear c17b0; try clear c18; try clear c18b0; try clear p18; try clear q18; try clear hx18; try clear c19; try clear c19b0; try clear p19; try clear q19; try clear hx19; try clear c20; try clear c20b0; try clear p21; try clear q21; try clear hx21; try clear hf21; try clear c23; try clear c24; try clear c31; try clear c31b0; try clear c31b1; try clear c32; try clear c32b0; try clear c32b1; try clear c34; try clear c41; try clear c41b0; try clear c42; try clear c44; try clear c44b0; try clear c46; try clear c46b0; try clear c47; try clear c47b0; try clear q48; try clear c49; try clear c51; try clear c51b0; try clear hcz11_0; try clear hcz11_1; try clear hcz12_0; try clear hcz12_1; try clear hcz15_0; try clear hcz15_1; try clear hcz25_0; try clear hcz25_1; try clear hcz25_2; try clear hcz25_3; try clear hcz27_0; try clear hcz27_1; try clear hcz27_2; try clear hcz27_3; try clear hcz35_0; try clear hcz35_1; try clear hcz38_0; try clear hcz38_1; try clear hcz40_0; try clear hcz40_1; try clear hcz43_0; try clear hcz43_1; try clear hcz7_0; try clear hcz7_1; try clear hfz11_0; try clear hfz11_1; try clear hfz12_0; try clear hfz12_1; try clear hfz15_0; try clear hfz15_1; try clear hfz25_0; try clear hfz25_1; try clear hfz25_2; try clear hfz25_3; try clear hfz27_0; try clear hfz27_1; try clear hfz27_2; try clear hfz27_3; try clear hfz35_0; try clear hfz35_1; try clear hfz38_0; try clear hfz38_1; try clear hfz40_0; try clear hfz40_1; try clear hfz43_0; try clear hfz43_1; try clear hfz7_0; try clear hfz7_1; try clear hx182_0; try clear hx182_1; try clear hx182_2; try clear hx182_3; try clear hx184_0; try clear hx195_0; try clear hx196_0; try clear hx21_0; try clear p1; try clear p18; try clear p182; try clear p184; try clear p195; try clear p196; try clear p2; try clear p21; try clear p6; try clear q1; try clear q18; try clear q182; try clear q184; try clear q195; try clear q196; try clear q2; try clear q21
            obtain ⟨kq, x64_44, rfl, HA, HJ44, HO_2, HO_6, HO_9, HO_10, BK175, BK178, HB⟩ := hcut
            cases kq with
            | zero => exact absurd HA.out (by simp [walk_Order.j3])
            | succ kj44 =>
             have H := HA.out
             clear HA
             simp only [walk_Order.j3] at H
             by_cases c54 : x64_44 = true
             ·
              subst c54
              have H1 : (if 0 ≤ x50_3 then (if x50_3 < (x9_3.length : Int) then (if x2_3.length < 17592186044416 then (if x50_3 < (t189.length : Int) then (walk_Order.l3 kj44 (x2_3 ++ [x50_3]) x6_3 (x9_3.set (x50_3 : Int).toNat true) t189 a0_0 x46_2 (rd_L2 t189 x50_3) ((rd_L2 t189 x50_3).length : Int) 0 a0_0 l0_1) else (none)) else (none)) else (none)) else (none)) = some (r1, r2, r3) := by rw [if_pos rfl] at H; exact H
              clear H
              have H := H1
              clear H1
              by_cases c55 : 0 ≤ x50_3
              rotate_left
              ·
               rw [if_neg c55] at H
               exact absurd H (by simp)
              rw [if_pos c55] at H
              have c55b0 : decide (0 ≤ x50_3) = true := decide_eq_true c55
              clear c55
              by_cases c56 : x50_3 < (x9_3.length : Int)
              rotate_left
              ·
               rw [if_neg c56] at H
               exact absurd H (by simp)
              rw [if_pos c56] at H
              have c56b0 : decide (x50_3 < (x9_3.length : Int)) = true := decide_eq_true c56
              clear c56
              obtain ⟨y197, hy197⟩ : ∃ y_ : List Bool, y_ = (x9_3.set (x50_3 : Int).toNat true) := ⟨_, rfl⟩
              replace H : (if x2_3.length < 17592186044416 then (if x50_3 < (t189.length : Int) then (walk_Order.l3 kj44 (x2_3 ++ [x50_3]) x6_3 y197 t189 a0_0 x46_2 (rd_L2 t189 x50_3) ((rd_L2 t189 x50_3).length : Int) 0 a0_0 l0_1) else (none)) else (none)) = some (r1, r2, r3) := by first | (rw [hy197]; exact H) | exact H
              have Ny197 := ak hy197
              clear hy197
              by_cases c58 : x2_3.length < 17592186044416
              rotate_left
              ·
               rw [if_neg c58] at H
               exact absurd H (by simp)
              rw [if_pos c58] at H
              have LMc58 := ak c58
              clear c58
              obtain ⟨y198, hy198⟩ : ∃ y_ : List Int, y_ = (x2_3 ++ [x50_3]) := ⟨_, rfl⟩
              replace H : (if x50_3 < (t189.length : Int) then (walk_Order.l3 kj44 y198 x6_3 y197 t189 a0_0 x46_2 (rd_L2 t189 x50_3) ((rd_L2 t189 x50_3).length : Int) 0 a0_0 l0_1) else (none)) = some (r1, r2, r3) := by first | (rw [hy198]; exact H) | exact H
              have Ny198 := ak hy198
              clear hy198
              by_cases c59 : x50_3 < (t189.length : Int)
              rotate_left
              ·
               rw [if_neg c59] at H
               exact absurd H (by simp)
              rw [if_pos c59] at H
              have c59b0 : decide (x50_3 < (t189.length : Int)) = true := decide_eq_true c59
              clear c59
              have H' := ak H
              clear H
              have p57 : 0 ≤ (x50_3 : Int) := oda
              have q57 : (x50_3 : Int) < ((x9_3.length : Int) : Int) := oda
              obtain ⟨go57, co57, eo57, gb57, gl57, cl57, HG57⟩ := Kd.R_form HO_9.out (by omega)
              (first | cases eo57 | (injection eo57 with ea_ en_ ec_; (first | subst ea_ | (injection ea_ with ea_; subst ea_)); subst ec_; clear en_))
              have GB57 := ak gb57
              have GG57 := ak HG57
              clear gb57 gl57 HG57
              obtain ⟨hx57_0, hf57_0⟩ := Kd.R_celln false HO_9.out (x50_3 : Int) p57 q57
              replace p57 := eq_true p57
              replace q57 := eq_true q57
              have HP60 := Kd.R_putg HO_9.out (x50_3 : Int) true
              go_wp2_with (first | go_step3 | (with_reducible refine Eq.mpr Exit.noGoto_normal ?_) | (with_reducible refine Eq.mpr Exit.noGoto_ret ?_) | (with_reducible refine Eq.mpr (Exit.noGoto_exit _) ?_) | ((with_reducible refine gate_store (t := 4) (p := 67) rfl ?_); (try (rw [drewN_self wc]; generalize hq_ : World.drewN wc _ = wc; have n0_ := ak (Kd.R_at hq_ HO_2.out); have n1_ := ak (Kd.R_at hq_ HO_6.out); have n2_ := ak (Kd.R_at hq_ HO_9.out); have n3_ := ak (Kd.S_at hq_ HO_10.out); have n4_ := ak (blk_at hq_ BK175.out); have n5_ := ak (blk_at hq_ BK178.out); have n6_ := ak (below_at hq_ HB.out); clear hq_ HO_2 HO_6 HO_9 HO_10 BK175 BK178 HB; have HO_2 := n0_; have HO_6 := n1_; have HO_9 := n2_; have HO_10 := n3_; have BK175 := n4_; have BK178 := n5_; have HB := n6_; clear n0_ n1_ n2_ n3_ n4_ n5_ n6_; (try (have HP60 := Kd.R_putg HO_9.out (x50_3 : Int) true)))); refine store_event (t := 4) (p := 67) (v := ?vo_w61) (w1 := (wc.setCell ⟨go57, (x50_3 : Int).toNat, none⟩ (.bool true))) ?hg ?ho ?hn ?hr ?_; (case ho => rfl); (case hg => rfl); (case hn => rfl); (case hr => first | (go_simp; done) | (go_simp; rfl)); intro w61 hw; have hg : wc.grownBy w61 (some go57) := (by rw [hw]; exact HP60.2); have hp_ : Kd.R Kd.bool 4 w61 w.heap.size (fun _ => True) (.slice (some ⟨go57, 0, none⟩) x9_3.length co57) y197 := (by rw [hw, Ny197.out]; exact HP60.1); clear HP60; have n0_ := ak (Kd.R_over' (v := (.slice (some ⟨go57, 0, none⟩) x9_3.length co57)) (rx HO_2.out) (Kd.R_typed HO_9.out) (by decide) hg); have n1_ := ak (Kd.R_over' (v := (.slice (some ⟨go57, 0, none⟩) x9_3.length co57)) (rx HO_6.out) (Kd.R_typed HO_9.out) (by decide) hg); have n2_ := ak (hp_); have n3_ := ak (Kd.S_over' (v := (.slice (some ⟨go57, 0, none⟩) x9_3.length co57)) (sx HO_10.out) (Kd.R_typed HO_9.out) (by decide) hg); have n4_ := ak (blk_grown (bx BK175.out) hg (Kd.R_ne HO_9.out BK175.out (by decide))); have n5_ := ak (blk_grown (bx BK178.out) hg (Kd.R_ne HO_9.out BK178.out (by decide))); have n6_ := ak ((by rw [hw]; exact below_set (HB.out) GB57.out : Below w.heap.size w w61)); clear HO_2; clear HO_6; clear HO_9; clear HO_10; clear BK175; clear BK178; clear HB; have HO_2 := n0_; have HO_6 := n1_; have HO_9 := n2_; have HO_10 := n3_; have BK175 := n4_; have BK178 := n5_; have HB := n6_; clear n0_ n1_ n2_ n3_ n4_ n5_ n6_; clear hg hw hp_) | ((with_reducible refine gate_builtin (b := .append) (xs := #[.tmp 68, .tmp 70]) rfl ?_); at_builtin; refine Kd.R_append (Kd.int .i64) (w0 := w) w.heap.size rfl (.tmp 68) (.tmp 70) 26 3 (.int .i64 0) 8 rfl Try.underlying26 info3 rfl (by decide) (by omega) u2 x2_3 x50_3 [.int .i64 x50_3] (fun k_ => some k_ ≠ (v180 : Value).ownBlock) (fun _ => False) rfl rfl ?aP (fun _ hk => hk.elim) ?aF ?aO ?aB ?aS ?aL ?_; (case aP => exact rfl); (case aB => exact lb); (case aF => exact (fun k_ hk => Kd.fresh' (Kd.R_lt (rx HO_6.out)) k_ hk)); (case aO => exact (rx HO_2.out)); (case aS => exact (below_size lb)); (case aL => have := LMc58.out; omega); intro v199 w62 ho hb hg hat; rw [← Ny198.out] at ho; have n0_ := ak (Kd.R_after (ok := (fun _ => True)) (by exact rx (Kd.R_mono HO_6.out (fun _ hk => ⟨trivial, hk⟩))) hg hat); have n1_ := ak (Kd.R_over' (rx HO_9.out) (Kd.R_typed (rx HO_2.out)) (by decide) hg); have n2_ := ak (Kd.S_after (ok := (fun k_ => some k_ ≠ (v180 : Value).ownBlock)) (by exact sx (Kd.S_mono HO_10.out (fun _ hk => ⟨hk.2, hk.1⟩))) hg hat); have n3_ := ak (blk_grown (bx BK175.out) hg (Kd.R_ne HO_2.out BK175.out (by decide))); have n4_ := ak (blk_grown (bx BK178.out) hg (Kd.R_ne HO_2.out BK178.out (by decide))); have n5_ := ak (hb); have n6_ := ak (ho); clear HO_6; clear HO_9; clear HO_10; clear BK175; clear BK178; clear HB; clear HO_2; have HO_6 := n0_; have HO_9 := n1_; have HO_10 := n2_; have BK175 := n3_; have BK178 := n4_; have HB := n5_; have HO200 := n6_; clear n0_ n1_ n2_ n3_ n4_ n5_ n6_; clear ho hb hg hat; obtain ⟨Ao63, co63, eo63⟩ := Kd.S_slice HO_10.out; subst eo63; have p201 : 0 ≤ (x50_3 : Int) := oda; have q201 : x50_3 < (t189.length : Int) := oda; obtain ⟨ad201, A201_0, c201_0, e201, hx201_0, hl201_0, hi201_0⟩ := at_L2 (Kd.S_reads' HO_10.out).2.2 x50_3 p201 q201; cases e201; obtain ⟨ce201, hce201, hMe201, hcc201⟩ := Kd.S_get HO_10.out [] x50_3 p201 (by first | exact q201 | exact oda | (have e_ := (Kd.S_reads' HO_10.out).1; omega)); obtain ⟨ve201_0, rfl, ge201_0⟩ := hMe201; have hv201_0 := hcc201 0 _ rfl; rw [Nat.add_zero, show ((Kd.slice 3 (Kd.int .i64))).sz = 1 from rfl, Nat.mul_one] at hv201_0; replace hv201_0 := Option.some.inj (hv201_0.symm.trans hx201_0); rw [hv201_0] at ge201_0; have HL201_0 := ak (show Kd.R (Kd.int .i64) 3 _ _ _ _ (rd_L2 t189 x50_3) from ge201_0); clear hv201_0 ge201_0; clear hcc201 hce201; have HR201_0 := ak hi201_0; have HC201_0 := ak hl201_0; clear hi201_0 hl201_0; replace p201 := eq_true p201; replace q201 := eq_true q201))
              go_loopg [77] kj44 (fun kq v77 w' => ∃ (x6_5 : List Int) (x77_5 : Int), v77 = .int .i64 x77_5 ∧ Aside0 (walk_Order.l3 kq y198 x6_5 y197 t189 a0_0 x46_2 (rd_L2 t189 x50_3) ((rd_L2 t189 x50_3).length : Int) x77_5 a0_0 l0_1 = some (r1, r2, r3)) ∧ Aside0 (kq ≤ kj44) ∧ Aside0 (Kd.R (Kd.int .i64) 3 w' w.heap.size (fun k_ => some k_ ≠ (v180 : Value).ownBlock) v199 y198) ∧ Aside0 (Kd.R (Kd.int .i64) 3 w' w.heap.size (fun k_ => some k_ ≠ (v199 : Value).ownBlock) v180 x6_5) ∧ Aside0 (Kd.R Kd.bool 4 w' w.heap.size (fun _ => True) (.slice (some ⟨go57, 0, none⟩) x9_3.length co57) y197) ∧ Aside0 (Kd.S (Kd.slice 3 (Kd.int .i64)) 26 w' w.heap.size (fun k_ => some k_ ≠ (v199 : Value).ownBlock ∧ some k_ ≠ (v180 : Value).ownBlock) (.slice (some ad201) t189.length co63) t189) ∧ Aside0 (Kd.R (Kd.int .i64) 3 w' w.heap.size (fun k_ => some k_ ≠ (v199 : Value).ownBlock ∧ some k_ ≠ (v180 : Value).ownBlock) (.slice A201_0 (rd_L2 t189 x50_3).length c201_0) (rd_L2 t189 x50_3)) ∧ Aside0 (w'.heap[gb175]? = some (.cells #[.int .i64 a0_0, (.slice A0_1 l0_1.length c0_1)] 24 (0, 0))) ∧ Aside0 (w'.heap[gb178]? = some (.cells #[.int .i64 t176, .int .i64 t177] 50 (0, 0))) ∧ Aside0 (Below w.heap.size w w'))
              case atStart => exact ⟨(x6_3), (0), (by first | rfl | (simp [*]; done)), H', ⟨Nat.le_refl _⟩, ⟨rx HO200.out⟩, ⟨by exact rx (Kd.R_mono HO_6.out (fun _ hk => hk.2))⟩, ⟨rx HO_9.out⟩, ⟨by exact sx (Kd.S_mono HO_10.out (fun _ hk => ⟨hk.2, hk.1⟩))⟩, ⟨by exact rx (Kd.R_mono (Kd.R_mono HL201_0.out (fun _ hk_ => hk_.1)) (fun _ hk => ⟨hk.2, hk.1⟩))⟩, ⟨bx BK175.out⟩, ⟨bx BK178.out⟩, ⟨lb⟩⟩
              case round =>
               clear H'
               try clear c1; try clear p1; try clear q1; try clear hx1; try clear c2; try clear p2; try clear q2; try clear hx2; try clear hf2; try clear c3; try clear c3b0; try clear c3b1; try clear c4; try clear c4b0; try clear c4b1; try clear q4; try clear c5; try clear c5b0; try clear c5b1; try clear p5; try clear q5; try clear hx5; try clear hf5; try clear p6; try clear c10; try clear c16; try clear c16b0; try clear c17; try clear c17b0; try clear c18; try clear c18b0; try clear p18; try clear q18; try clear hx18; try clear c19; try clear c19b0; try clear p19; try clear q19; try clear hx19; try clear c20; try clear c20b0; try clear p20; try clear q20; try clear hx20; try clear p21; try clear q21; try clear hx21; try clear hf21; try clear c23; try clear c24; try clear c31; try clear c31b0; try clear c31b1; try clear c32; try clear c32b0; try clear c32b1; try clear c34; try clear c41; try clear c41b0; try clear c42; try clear c44; try clear c44b0; try clear c46; try clear c46b0; try clear c47; try clear c47b0; try clear q48; try clear c49; try clear c51; try clear c51b0; try clear c54; try clear c55; try clear c55b0; try clear c56; try clear c56b0; try clear p57; try clear q57; try clear hx57; try clear hf57; try clear c58; try clear c59; try clear c59b0; try clear hcz11_0; try clear hcz11_1; try clear hcz12_0; try clear hcz12_1; try clear hcz15_0; try clear hcz15_1; try clear hcz25_0; try clear hcz25_1; try clear hcz25_2; try clear hcz25_3; try clear hcz27_0; try clear hcz27_1; try clear hcz27_2; try clear hcz27_3; try clear hcz35_0; try clear hcz35_1; try clear hcz38_0; try clear hcz38_1; try clear hcz40_0; try clear hcz40_1; try clear hcz43_0; try clear hcz43_1; try clear hcz7_0; try clear hcz7_1; try clear hfz11_0; try clear hfz11_1; try clear hfz12_0; try clear hfz12_1; try clear hfz15_0; try clear hfz15_1; try clear hfz25_0; try clear hfz25_1; try clear hfz25_2; try clear hfz25_3; try clear hfz27_0; try clear hfz27_1; try clear hfz27_2; try clear hfz27_3; try clear hfz35_0; try clear hfz35_1; try clear hfz38_0; try clear hfz38_1; try clear hfz40_0; try clear hfz40_1; try clear hfz43_0; try clear hfz43_1; try clear hfz7_0; try clear hfz7_1; try clear hx182_0; try clear hx182_1; try clear hx182_2; try clear hx182_3; try clear hx184_0; try clear hx195_0; try clear hx196_0; try clear hx201_0; try clear hx21_0; try clear hx57_0; try clear p1; try clear p18; try clear p182; try clear p184; try clear p19; try clear p195; try clear p196; try clear p2; try clear p201; try clear p21; try clear p57; try clear p6; try clear q1; try clear q18; try clear q182; try clear q184; try clear q19; try clear q195; try clear q196; try clear q2; try clear q201; try clear q21; try clear q4; try clear q48; try clear q57
               obtain ⟨x6_5, x77_5, rfl, HA, HK5, HO_2, HO_6, HO_9, HO_10, HL201_0, BK175, BK178, HB⟩ := hrel
               have hl9_5 := (Kd.R_reads' HO_9.out).1
               rw [hl9_5] at HO_9
               (try simp only [hl9_5])
               (try simp only [hl9_5] at BK175)
               (try simp only [hl9_5] at BK178)
               (try simp only [hl9_5] at HO_2)
               (try simp only [hl9_5] at HO_6)
               (try simp only [hl9_5] at HO_10)
               (try simp only [hl9_5] at HL201_0)
               cases gk with
               | zero => exact absurd HA.out (by simp [walk_Order.l3])
               | succ k5 =>
                have H := HA.out
                clear HA
                simp only [walk_Order.l3] at H
                by_cases c64 : x77_5 < ((rd_L2 t189 x50_3).length : Int)
                ·
                 rw [if_pos c64] at H
                 have c64b0 : decide (x77_5 < ((rd_L2 t189 x50_3).length : Int)) = true := decide_eq_true c64
                 clear c64
                 by_cases c65 : 0 ≤ x77_5
                 rotate_left
                 ·
                  rw [if_neg c65] at H
                  exact absurd H (by simp)
                 rw [if_pos c65] at H
                 have c65b0 : decide (0 ≤ x77_5) = true := decide_eq_true c65
                 clear c65
                 by_cases c66 : x77_5 < ((rd_L2 t189 x50_3).length : Int)
                 rotate_left
                 ·
                  rw [if_neg c66] at H
                  exact absurd H (by simp)
                 rw [if_pos c66] at H
                 have c66b0 : decide (x77_5 < ((rd_L2 t189 x50_3).length : Int)) = true := decide_eq_true c66
                 clear c66
                 by_cases c67 : 0 ≤ (rd (rd_L2 t189 x50_3) x77_5)
                 rotate_left
                 ·
                  rw [if_neg c67] at H
                  exact absurd H (by simp)
                 rw [if_pos c67] at H
                 have c67b0 : decide (0 ≤ (rd (rd_L2 t189 x50_3) x77_5)) = true := decide_eq_true c67
                 clear c67
                 by_cases c68 : (rd (rd_L2 t189 x50_3) x77_5) < (l0_1.length : Int)
                 rotate_left
                 ·
                  rw [if_neg c68] at H
                  exact absurd H (by simp)
                 rw [if_pos c68] at H
                 have c68b0 : decide ((rd (rd_L2 t189 x50_3) x77_5) < (l0_1.length : Int)) = true := decide_eq_true c68
                 clear c68
                 by_cases c69 : 0 ≤ ((rd_T41 l0_1 (rd (rd_L2 t189 x50_3) x77_5)).f1)
                 rotate_left
                 ·
                  rw [if_neg c69] at H
                  exact absurd H (by simp)
                 rw [if_pos c69] at H
                 have c69b0 : decide (0 ≤ ((rd_T41 l0_1 (rd (rd_L2 t189 x50_3) x77_5)).f1)) = true := decide_eq_true c69
                 clear c69
                 by_cases c70 : ((rd_T41 l0_1 (rd (rd_L2 t189 x50_3) x77_5)).f1) < (x6_5.length : Int)
                 rotate_left
                 ·
                  rw [if_neg c70] at H
                  exact absurd H (by simp)
                 rw [if_pos c70] at H
                 have c70b0 : decide (((rd_T41 l0_1 (rd (rd_L2 t189 x50_3) x77_5)).f1) < (x6_5.length : Int)) = true := decide_eq_true c70
                 clear c70
                 obtain ⟨y205, hy205⟩ : ∃ y_ : List Int, y_ = (x6_5.set (((rd_T41 l0_1 (rd (rd_L2 t189 x50_3) x77_5)).f1) : Int).toNat (wrap64 ((rd x6_5 ((rd_T41 l0_1 (rd (rd_L2 t189 x50_3) x77_5)).f1)) - 1))) := ⟨_, rfl⟩
                 replace H : (walk_Order.l3 k5 y198 y205 y197 t189 a0_0 x46_2 (rd_L2 t189 x50_3) ((rd_L2 t189 x50_3).length : Int) (wrap64 (x77_5 + 1)) a0_0 l0_1) = some (r1, r2, r3) := by first | (rw [hy205]; exact H) | exact H
                 have Ny205 := ak hy205
                 clear hy205
                 have H' := ak H
                 clear H
                 have p202 : 0 ≤ (x77_5 : Int) := oda
                 have q202 : x77_5 < ((rd_L2 t189 x50_3).length : Int) := oda
                 obtain ⟨ad202, e202, hx202_0⟩ := Kd.at_int (Kd.R_reads' HL201_0.out).2.2 x77_5 p202 q202
                 cases e202
                 (try replace hx202_0 := (HB.out.cell (World.block_lt_of_cell? w _ hx202_0)).trans hx202_0)
                 replace p202 := eq_true p202
                 replace q202 := eq_true q202
                 have hnb72 := NB175_178.out
                 have hnc72 := NB178_175.out
                 have hcz73_0 : wr.cell? ⟨gb175, 0, none⟩ = some (.int .i64 a0_0) := (blk_cell BK175.out 0).trans rfl
                 have hcz73_1 : wr.cell? ⟨gb175, 1, none⟩ = some (.slice A0_1 l0_1.length c0_1) := (blk_cell BK175.out 1).trans rfl
                 have hfz73_0 := blk_frozen BK175.out 0
                 have hfz73_1 := blk_frozen BK175.out 1
                 have p203 : 0 ≤ ((rd (rd_L2 t189 x50_3) x77_5) : Int) := oda
                 have q203 : (rd (rd_L2 t189 x50_3) x77_5) < (l0_1.length : Int) := oda
                 obtain ⟨ad203, e203, hx203_0, hx203_1, hx203_2, hx203_3⟩ := at_T41 HR0_1.out (rd (rd_L2 t189 x50_3) x77_5) p203 q203
                 cases e203
                 (try replace hx203_0 := (HB.out.cell (World.block_lt_of_cell? w _ hx203_0)).trans hx203_0)
                 (try replace hx203_1 := (HB.out.cell (World.block_lt_of_cell? w _ hx203_1)).trans hx203_1)
                 (try replace hx203_2 := (HB.out.cell (World.block_lt_of_cell? w _ hx203_2)).trans hx203_2)
                 (try replace hx203_3 := (HB.out.cell (World.block_lt_of_cell? w _ hx203_3)).trans hx203_3)
                 replace p203 := eq_true p203
                 replace q203 := eq_true q203
                 obtain ⟨Ao74, co74, eo74⟩ := Kd.R_slice HO_6.out
                 subst eo74
                 have p204 : 0 ≤ (((rd_T41 l0_1 (rd (rd_L2 t189 x50_3) x77_5)).f1) : Int) := oda
                 have q204 : ((rd_T41 l0_1 (rd (rd_L2 t189 x50_3) x77_5)).f1) < (x6_5.length : Int) := oda
                 obtain ⟨ad204, e204, hx204_0⟩ := Kd.at_int (Kd.R_reads' HO_6.out).2.2 ((rd_T41 l0_1 (rd (rd_L2 t189 x50_3) x77_5)).f1) p204 q204
                 cases e204
                 replace p204 := eq_true p204
                 replace q204 := eq_true q204
                 have p71 : 0 ≤ (((rd_T41 l0_1 (rd (rd_L2 t189 x50_3) x77_5)).f1) : Int) := oda
                 have q71 : (((rd_T41 l0_1 (rd (rd_L2 t189 x50_3) x77_5)).f1) : Int) < ((x6_5.length : Int) : Int) := oda
                 obtain ⟨go71, co71, eo71, gb71, gl71, cl71, HG71⟩ := Kd.R_form HO_6.out (by omega)
                 (first | cases eo71 | (injection eo71 with ea_ en_ ec_; (first | subst ea_ | (injection ea_ with ea_; subst ea_)); subst ec_; clear en_))
                 have GB71 := ak gb71
                 have GG71 := ak HG71
                 clear gb71 gl71 HG71
                 (first | simp only [add_plain] at hx204_0 | skip)
                 obtain ⟨hx71_0, hf71_0⟩ := Kd.R_celln 0 HO_6.out (((rd_T41 l0_1 (rd (rd_L2 t189 x50_3) x77_5)).f1) : Int) p71 q71
                 replace p71 := eq_true p71
                 replace q71 := eq_true q71
                 have HP75 := Kd.R_putg HO_6.out (((rd_T41 l0_1 (rd (rd_L2 t189 x50_3) x77_5)).f1) : Int) (wrap64 ((rd x6_5 ((rd_T41 l0_1 (rd (rd_L2 t189 x50_3) x77_5)).f1)) - 1))
                 go_wp2_with (first | go_step3 | (with_reducible refine Eq.mpr Exit.noGoto_normal ?_) | (with_reducible refine Eq.mpr Exit.noGoto_ret ?_) | (with_reducible refine Eq.mpr (Exit.noGoto_exit _) ?_) | ((with_reducible refine gate_store (t := 3) (p := 91) rfl ?_); (try (rw [drewN_self wr]; generalize hq_ : World.drewN wr _ = wr; have n0_ := ak (Kd.R_at hq_ HO_2.out); have n1_ := ak (Kd.R_at hq_ HO_6.out); have n2_ := ak (Kd.R_at hq_ HO_9.out); have n3_ := ak (Kd.S_at hq_ HO_10.out); have n3_L := ak (Kd.R_at hq_ HL201_0.out); have n4_ := ak (blk_at hq_ BK175.out); have n5_ := ak (blk_at hq_ BK178.out); have n6_ := ak (below_at hq_ HB.out); clear hq_ HO_2 HO_6 HO_9 HO_10 HL201_0 BK175 BK178 HB; have HO_2 := n0_; have HO_6 := n1_; have HO_9 := n2_; have HO_10 := n3_; have HL201_0 := n3_L; have BK175 := n4_; have BK178 := n5_; have HB := n6_; clear n0_ n1_ n2_ n3_ n4_ n5_ n6_; (try (have HP75 := Kd.R_putg HO_6.out (((rd_T41 l0_1 (rd (rd_L2 t189 x50_3) x77_5)).f1) : Int) (wrap64 ((rd x6_5 ((rd_T41 l0_1 (rd (rd_L2 t189 x50_3) x77_5)).f1)) - 1)))))); refine store_event (t := 3) (p := 91) (v := ?vo_w76) (w1 := (wr.setCell ⟨go71, (((rd_T41 l0_1 (rd (rd_L2 t189 x50_3) x77_5)).f1) : Int).toNat, none⟩ (.int .i64 (wrap64 ((rd x6_5 ((rd_T41 l0_1 (rd (rd_L2 t189 x50_3) x77_5)).f1)) - 1))))) ?hg ?ho ?hn ?hr ?_; (case ho => rfl); (case hg => rfl); (case hn => rfl); (case hr => first | (go_simp; done) | (go_simp; rfl)); intro w76 hw; have hg : wr.grownBy w76 (some go71) := (by rw [hw]; exact HP75.2); have hp_ : Kd.R (Kd.int .i64) 3 w76 w.heap.size (fun k_ => some k_ ≠ (v199 : Value).ownBlock) (.slice (some ⟨go71, 0, none⟩) x6_5.length co74) y205 := (by rw [hw, Ny205.out]; exact HP75.1); clear HP75; have n0_ := ak (Kd.R_after (v := (.slice (some ⟨go71, 0, none⟩) x6_5.length co74)) (v1 := (.slice (some ⟨go71, 0, none⟩) x6_5.length co74)) (ok := (fun _ => True)) (by exact rx (Kd.R_mono HO_2.out (fun _ hk => ⟨trivial, hk⟩))) hg (.inl rfl)); have n1_ := ak (hp_); have n2_ := ak (Kd.R_over' (v := (.slice (some ⟨go71, 0, none⟩) x6_5.length co74)) (rx HO_9.out) (Kd.R_typed HO_6.out) (by decide) hg); have n3_ := ak (Kd.S_after (v := (.slice (some ⟨go71, 0, none⟩) x6_5.length co74)) (v1 := (.slice (some ⟨go71, 0, none⟩) x6_5.length co74)) (ok := (fun k_ => some k_ ≠ (v199 : Value).ownBlock)) (sx HO_10.out) hg (.inl rfl)); have n3_L := ak (Kd.R_after (v := (.slice (some ⟨go71, 0, none⟩) x6_5.length co74)) (v1 := (.slice (some ⟨go71, 0, none⟩) x6_5.length co74)) (ok := (fun k_ => some k_ ≠ (v199 : Value).ownBlock)) (rx HL201_0.out) hg (.inl rfl)); have n4_ := ak (blk_grown (bx BK175.out) hg (Kd.R_ne HO_6.out BK175.out (by decide))); have n5_ := ak (blk_grown (bx BK178.out) hg (Kd.R_ne HO_6.out BK178.out (by decide))); have n6_ := ak ((by rw [hw]; exact below_set (HB.out) GB71.out : Below w.heap.size w w76)); clear HO_2; clear HO_6; clear HO_9; clear HO_10; clear HL201_0; clear BK175; clear BK178; clear HB; have HO_2 := n0_; have HO_6 := n1_; have HO_9 := n2_; have HO_10 := n3_; have HL201_0 := n3_L; have BK175 := n4_; have BK178 := n5_; have HB := n6_; clear n0_ n1_ n2_ n3_ n4_ n5_ n6_; clear hg hw hp_))
                 (try simp only [← hl9_5])
                 go_roundg k5
                 case measure => have := HK1.out; have := HK2.out; have := HK3.out; have := HJ44.out; have := HK5.out; omega
                 case rel => exact ⟨(y205), (wrap64 (x77_5 + 1)), (by first | rfl | (simp [*]; done)), H', ⟨by have := HK1.out; have := HK2.out; have := HK3.out; have := HJ44.out; have := HK5.out; omega⟩, ⟨by (try simp only [hl9_5]); exact rx (Kd.R_mono HO_2.out (fun _ hk => hk.2))⟩, ⟨by (try simp only [hl9_5]); exact rx HO_6.out⟩, ⟨by (try simp only [hl9_5]); exact rx HO_9.out⟩, ⟨by (try simp only [hl9_5]); exact sx HO_10.out⟩, ⟨by (try simp only [hl9_5]); exact rx HL201_0.out⟩, ⟨by (try simp only [hl9_5]); exact bx BK175.out⟩, ⟨by (try simp only [hl9_5]); exact bx BK178.out⟩, ⟨lb⟩⟩
                ·
                 rw [if_neg c64] at H
                 have c64b0 : decide (x77_5 < ((rd_L2 t189 x50_3).length : Int)) = false := decide_eq_false c64
                 clear c64
                 have H' := ak H
                 clear H
                 go_wp2_with (first | go_step3 | (with_reducible refine Eq.mpr Exit.noGoto_normal ?_) | (with_reducible refine Eq.mpr Exit.noGoto_ret ?_) | (with_reducible refine Eq.mpr (Exit.noGoto_exit _) ?_))
                 repeat (go_quiet (fail); try go_wp2_with (first | go_step3 | (with_reducible refine Eq.mpr Exit.noGoto_normal ?_) | (with_reducible refine Eq.mpr Exit.noGoto_ret ?_) | (with_reducible refine Eq.mpr (Exit.noGoto_exit _) ?_)))
                 (try simp only [← hl9_5])
                 go_roundg k5
                 case measure => have := HK1.out; have := HK2.out; have := HK3.out; have := HJ44.out; have := HK5.out; omega
                 case rel => exact ⟨(y198), (x6_5), (y197), (wrap64 (x46_2 + 1)), (by first | rfl | (simp [*]; done)), H', ⟨by have := HK1.out; have := HK2.out; have := HK3.out; have := HJ44.out; have := HK5.out; omega⟩, ⟨by (try simp only [hl9_5]); exact rx HO_2.out⟩, ⟨by (try simp only [hl9_5]); exact rx HO_6.out⟩, ⟨by (try simp only [hl9_5]); exact rx HO_9.out⟩, ⟨by (try simp only [hl9_5]); exact sx HO_10.out⟩, ⟨by (try simp only [hl9_5]); exact bx BK175.out⟩, ⟨by (try simp only [hl9_5]); exact bx BK178.out⟩, ⟨lb⟩⟩
             ·
              replace c54 := Bool.eq_false_iff.mpr c54
              subst c54
              have H1 : (walk_Order.l2 kj44 x2_3 x6_3 x9_3 t189 a0_0 x46_2 a0_0 (wrap64 (x50_3 + 1)) a0_0 l0_1) = some (r1, r2, r3) := by rw [if_neg (show ¬ (false = true) by decide)] at H; exact H
              clear H
              have H := H1
              clear H1
              have H' := ak H
              clear H
              go_wp2_with (first | go_step3 | (with_reducible refine Eq.mpr Exit.noGoto_normal ?_) | (with_reducible refine Eq.mpr Exit.noGoto_ret ?_) | (with_reducible refine Eq.mpr (Exit.noGoto_exit _) ?_))
              repeat (go_quiet (fail); try go_wp2_with (first | go_step3 | (with_reducible refine Eq.mpr Exit.noGoto_normal ?_) | (with_reducible refine Eq.mpr Exit.noGoto_ret ?_) | (with_reducible refine Eq.mpr (Exit.noGoto_exit _) ?_)))
              go_roundg kj44
              case measure => have := HK1.out; have := HK2.out; have := HK3.out; have := HJ44.out; omega
              case rel => exact ⟨(x2_3), (x6_3), (x9_3), (wrap64 (x50_3 + 1)), (by first | rfl | (simp [*]; done)), H', ⟨by have := HK1.out; have := HK2.out; have := HK3.out; have := HJ44.out; omega⟩, ⟨rx HO_2.out⟩, ⟨rx HO_6.out⟩, ⟨rx HO_9.out⟩, ⟨sx HO_10.out⟩, ⟨bx BK175.out⟩, ⟨bx BK178.out⟩, ⟨lb⟩⟩
          ·
           rw [if_neg c44] at H
           have c44b0 : decide (x50_3 < a0_0) = false := decide_eq_false c44
           clear c44
           replace H := Option.bind_eq_some_iff.mp H
           obtain ⟨t192, A770, H⟩ := H
           replace H : (some (([] : List Int), t192, 71)) = some (r1, r2, r3) := H
           have A77 := ak A770
           clear A770
           simp only [Option.some.injEq, Prod.mk.injEq] at H
           obtain ⟨rfl, rfl, rfl⟩ := H
           have hnb78 := NB175_178.out
           have hnc78 := NB178_175.out
           have hcz79_0 : wr.cell? ⟨gb175, 0, none⟩ = some (.int .i64 a0_0) := (blk_cell BK175.out 0).trans rfl
           have hcz79_1 : wr.cell? ⟨gb175, 1, none⟩ = some (.slice A0_1 l0_1.length c0_1) := (blk_cell BK175.out 1).trans rfl
           have hfz79_0 := blk_frozen BK175.out 0
           have hfz79_1 := blk_frozen BK175.out 1
           obtain ⟨Ao80, co80, eo80⟩ := Kd.R_slice HO_9.out
           subst eo80
           go_wp2_with (first | go_step3 | (with_reducible refine Eq.mpr Exit.noGoto_normal ?_) | (with_reducible refine Eq.mpr Exit.noGoto_ret ?_) | (with_reducible refine Eq.mpr (Exit.noGoto_exit _) ?_) | (go_at_call 33; (with_reducible refine (walk_round.calls k3 a0_0 _ _ l0_1 _ _ x9_3 t192 _ ?side1 ?side2 ?side3 ?side4 A77.out).mono ?_); (case side1 => repeat (first | exact (Kd.C_below HR0_1.out HB.out) | (with_reducible refine Kd.C_alloc ?_ _) | (with_reducible refine Kd.C_drewN ?_ _) | (with_reducible refine Kd.C_drew ?_))); (case side2 => exact HC0_1.out); (case side3 => repeat (first | exact (Kd.R_reads' HO_9.out).2.2 | (with_reducible refine Kd.C_alloc ?_ _) | (with_reducible refine Kd.C_drewN ?_ _) | (with_reducible refine Kd.C_drew ?_))); (case side4 => exact (Kd.R_reads' HO_9.out).2.1); rintro e w81 ⟨v193, rfl, ho0, hb⟩; have n0_ := ak (Kd.R_elder' (rx HO_2.out) (Kd.R_base ho0) hb); have n1_ := ak (Kd.R_elder' (rx HO_6.out) (Kd.R_base ho0) hb); have n2_ := ak (Kd.R_below (rx HO_9.out) hb); have n3_ := ak (Kd.S_elder' (sx HO_10.out) (Kd.R_base ho0) hb); have n4_ := ak (Kd.R_lower (Kd.R_new' (Kd.R_new' ho0 (Kd.R_lt (rx HO_2.out))) (Kd.R_lt (rx HO_6.out))) (below_size lb)); have n5_ := ak (blk_below (bx BK175.out) hb); have n6_ := ak (blk_below (bx BK178.out) hb); have n7_ := ak (below_step lb hb); clear HO_2; clear HO_6; clear HO_9; clear HO_10; clear BK175; clear BK178; clear HB; have HO_2 := n0_; have HO_6 := n1_; have HO_9 := n2_; have HO_10 := n3_; have HO194 := n4_; have BK175 := n5_; have BK178 := n6_; have HB := n7_; clear n0_ n1_ n2_ n3_ n4_ n5_ n6_ n7_; (try clear hb); (try clear hb2); (try clear hk); (try clear hi); (try clear ho0)))
           go_ret3
           exact ⟨_, _, by first | rfl | (simp [errW_none, errW_some] <;> rfl) | (simp [*, errW_none, errW_some] <;> rfl), by first | exact Kd.R_nil _ _ _ _ _ | exact Kd.N_nil _ _ _ _ _ | exact Kd.V_nil _ _ _ _ _ | exact Kd.Q_nil _ _ _ _ _ | exact Kd.S_nil _ _ _ _ _, by exact rx (Kd.R_mono HO194.out (fun _ hk => (by simp [Value.ownBlock]))), lb⟩
       ·
        rw [if_neg c41] at H
        have c41b0 : decide (x46_2 < a0_0) = false := decide_eq_false c41
        clear c41
        simp only [Option.some.injEq, Prod.mk.injEq] at H
        obtain ⟨rfl, rfl, rfl⟩ := H
        go_wp2_with (first | go_step3 | (with_reducible refine Eq.mpr Exit.noGoto_normal ?_) | (with_reducible refine Eq.mpr Exit.noGoto_ret ?_) | (with_reducible refine Eq.mpr (Exit.noGoto_exit _) ?_))
        repeat (go_quiet (fail); try go_wp2_with (first | go_step3 | (with_reducible refine Eq.mpr Exit.noGoto_normal ?_) | (with_reducible refine Eq.mpr Exit.noGoto_ret ?_) | (with_reducible refine Eq.mpr (Exit.noGoto_exit _) ?_)))
        go_ret3
        exact ⟨_, _, by first | rfl | (simp [errW_none, errW_some] <;> rfl) | (simp [*, errW_none, errW_some] <;> rfl), by exact rx (Kd.R_mono HO_2.out (fun _ hk => (by simp [Value.ownBlock]))), by first | exact Kd.R_nil _ _ _ _ _ | exact Kd.N_nil _ _ _ _ _ | exact Kd.V_nil _ _ _ _ _ | exact Kd.Q_nil _ _ _ _ _ | exact Kd.S_nil _ _ _ _ _, lb⟩
 ·
  rw [if_neg c3] at H
  have c3b0 : (t176 == 0) = false := beq_eq_false_iff_ne.mpr c3
  have c3b1 : (t176 != 0) = true := bne_iff_ne.mpr c3
  simp only [Option.some.injEq, Prod.mk.injEq] at H
  obtain ⟨rfl, rfl, rfl⟩ := H
  go_enter Try.func16, Try.ntmps16
  go_wp2_with (first | go_step3 | (with_reducible refine Eq.mpr Exit.noGoto_normal ?_) | (with_reducible refine Eq.mpr Exit.noGoto_ret ?_) | (with_reducible refine Eq.mpr (Exit.noGoto_exit _) ?_) | ((with_reducible refine gate_dst (N := 1) rfl ?_); refine box_event ?hg (N := 1) ?hd (cs := #[.int .i64 a0_0, .slice A0_1 l0_1.length c0_1]) (t := 24) ?hr ?_; (case hd => rfl); (case hg => rfl); (case hr => first | (go_simp; done) | (go_simp; rfl)); intro gb175 hg w82 hbox hb; have n0_ := ak (below_step lb hb); have n1_ := ak (hbox); have n2_ := ak ((by rw [hg]; exact (below_size lb) : w.heap.size ≤ gb175)); have n3_ := ak ((by rw [hg]; exact (below_size lb) : w.heap.size ≤ gb175)); clear HB; have HB := n0_; have BK175 := n1_; have GW175 := n2_; have GE175 := n3_; clear n0_ n1_ n2_ n3_; clear hb hbox hg; have hcz83_0 : w82.cell? ⟨gb175, 0, none⟩ = some (.int .i64 a0_0) := (blk_cell BK175.out 0).trans rfl; have hcz83_1 : w82.cell? ⟨gb175, 1, none⟩ = some (.slice A0_1 l0_1.length c0_1) := (blk_cell BK175.out 1).trans rfl; have hfz83_0 := blk_frozen BK175.out 0; have hfz83_1 := blk_frozen BK175.out 1) | (go_at_call 29; (with_reducible refine (graph_Check.calls k a0_0 _ _ l0_1 t176 t177 _ ?side1 ?side2 A2.out).mono ?_); (case side1 => repeat (first | exact (Kd.C_below HR0_1.out HB.out) | (with_reducible refine Kd.C_alloc ?_ _) | (with_reducible refine Kd.C_drewN ?_ _) | (with_reducible refine Kd.C_drew ?_))); (case side2 => exact HC0_1.out); rintro e w84 ⟨rfl, hb⟩; have n0_ := ak (blk_below (bx BK175.out) hb); have n1_ := ak (below_step lb hb); clear BK175; clear HB; have BK175 := n0_; have HB := n1_; clear n0_ n1_; (try clear hb); (try clear hb2); (try clear hk); (try clear hi)) | ((with_reducible refine gate_dst (N := 5) rfl ?_); refine box_event ?hg (N := 5) ?hd (cs := #[.int .i64 0, .int .i64 0]) (t := 50) ?hr ?_; (case hd => rfl); (case hg => rfl); (case hr => first | (go_simp; done) | (go_simp; rfl)); intro gb178 hg w85 hbox hb; have n0_ := ak (blk_below (bx BK175.out) hb); have n1_ := ak (below_step lb hb); have n2_ := ak (hbox); have n3_ := ak ((by rw [hg]; exact (below_size lb) : w.heap.size ≤ gb178)); have n4_ := ak ((by rw [hg]; exact (below_size lb) : w.heap.size ≤ gb178)); have n5_ := ak ((by rw [hg]; exact Nat.ne_of_lt (blk_lt (g := gb175) (o := .cells #[.int .i64 a0_0, .slice A0_1 l0_1.length c0_1] 24 (0, 0)) (bx BK175.out)) : gb175 ≠ gb178)); have n6_ := ak ((by rw [hg]; exact Nat.ne_of_gt (blk_lt (g := gb175) (o := .cells #[.int .i64 a0_0, .slice A0_1 l0_1.length c0_1] 24 (0, 0)) (bx BK175.out)) : gb178 ≠ gb175)); clear BK175; clear HB; have BK175 := n0_; have HB := n1_; have BK178 := n2_; have GW178 := n3_; have GE178 := n4_; have NB175_178 := n5_; have NB178_175 := n6_; clear n0_ n1_ n2_ n3_ n4_ n5_ n6_; clear hb hbox hg; have hnb86 := NB178_175.out; have hnc86 := NB175_178.out; have hcz87_0 : w85.cell? ⟨gb178, 0, none⟩ = some (.int .i64 0) := (blk_cell BK178.out 0).trans rfl; have hcz87_1 : w85.cell? ⟨gb178, 1, none⟩ = some (.int .i64 0) := (blk_cell BK178.out 1).trans rfl; have hfz87_0 := blk_frozen BK178.out 0; have hfz87_1 := blk_frozen BK178.out 1))
  repeat (go_quiet (first | ((with_reducible refine gate_dst (N := 1) rfl ?_); refine box_event ?hg (N := 1) ?hd (cs := #[.int .i64 a0_0, .slice A0_1 l0_1.length c0_1]) (t := 24) ?hr ?_; (case hd => rfl); (case hg => rfl); (case hr => first | (go_simp; done) | (go_simp; rfl)); intro gb175 hg w82 hbox hb; have n0_ := ak (below_step lb hb); have n1_ := ak (hbox); have n2_ := ak ((by rw [hg]; exact (below_size lb) : w.heap.size ≤ gb175)); have n3_ := ak ((by rw [hg]; exact (below_size lb) : w.heap.size ≤ gb175)); clear HB; have HB := n0_; have BK175 := n1_; have GW175 := n2_; have GE175 := n3_; clear n0_ n1_ n2_ n3_; clear hb hbox hg; have hcz83_0 : w82.cell? ⟨gb175, 0, none⟩ = some (.int .i64 a0_0) := (blk_cell BK175.out 0).trans rfl; have hcz83_1 : w82.cell? ⟨gb175, 1, none⟩ = some (.slice A0_1 l0_1.length c0_1) := (blk_cell BK175.out 1).trans rfl; have hfz83_0 := blk_frozen BK175.out 0; have hfz83_1 := blk_frozen BK175.out 1) | (go_at_call 29; (with_reducible refine (graph_Check.calls k a0_0 _ _ l0_1 t176 t177 _ ?side1 ?side2 A2.out).mono ?_); (case side1 => repeat (first | exact (Kd.C_below HR0_1.out HB.out) | (with_reducible refine Kd.C_alloc ?_ _) | (with_reducible refine Kd.C_drewN ?_ _) | (with_reducible refine Kd.C_drew ?_))); (case side2 => exact HC0_1.out); rintro e w84 ⟨rfl, hb⟩; have n0_ := ak (blk_below (bx BK175.out) hb); have n1_ := ak (below_step lb hb); clear BK175; clear HB; have BK175 := n0_; have HB := n1_; clear n0_ n1_; (try clear hb); (try clear hb2); (try clear hk); (try clear hi)) | ((with_reducible refine gate_dst (N := 5) rfl ?_); refine box_event ?hg (N := 5) ?hd (cs := #[.int .i64 0, .int .i64 0]) (t := 50) ?hr ?_; (case hd => rfl); (case hg => rfl); (case hr => first | (go_simp; done) | (go_simp; rfl)); intro gb178 hg w85 hbox hb; have n0_ := ak (blk_below (bx BK175.out) hb); have n1_ := ak (below_step lb hb); have n2_ := ak (hbox); have n3_ := ak ((by rw [hg]; exact (below_size lb) : w.heap.size ≤ gb178)); have n4_ := ak ((by rw [hg]; exact (below_size lb) : w.heap.size ≤ gb178)); have n5_ := ak ((by rw [hg]; exact Nat.ne_of_lt (blk_lt (g := gb175) (o := .cells #[.int .i64 a0_0, .slice A0_1 l0_1.length c0_1] 24 (0, 0)) (bx BK175.out)) : gb175 ≠ gb178)); have n6_ := ak ((by rw [hg]; exact Nat.ne_of_gt (blk_lt (g := gb175) (o := .cells #[.int .i64 a0_0, .slice A0_1 l0_1.length c0_1] 24 (0, 0)) (bx BK175.out)) : gb178 ≠ gb175)); clear BK175; clear HB; have BK175 := n0_; have HB := n1_; have BK178 := n2_; have GW178 := n3_; have GE178 := n4_; have NB175_178 := n5_; have NB178_175 := n6_; clear n0_ n1_ n2_ n3_ n4_ n5_ n6_; clear hb hbox hg; have hnb86 := NB178_175.out; have hnc86 := NB175_178.out; have hcz87_0 : w85.cell? ⟨gb178, 0, none⟩ = some (.int .i64 0) := (blk_cell BK178.out 0).trans rfl; have hcz87_1 : w85.cell? ⟨gb178, 1, none⟩ = some (.int .i64 0) := (blk_cell BK178.out 1).trans rfl; have hfz87_0 := blk_frozen BK178.out 0; have hfz87_1 := blk_frozen BK178.out 1)); try go_wp2_with (first | go_step3 | (with_reducible refine Eq.mpr Exit.noGoto_normal ?_) | (with_reducible refine Eq.mpr Exit.noGoto_ret ?_) | (with_reducible refine Eq.mpr (Exit.noGoto_exit _) ?_) | ((with_reducible refine gate_dst (N := 1) rfl ?_); refine box_event ?hg (N := 1) ?hd (cs := #[.int .i64 a0_0, .slice A0_1 l0_1.length c0_1]) (t := 24) ?hr ?_; (case hd => rfl); (case hg => rfl); (case hr => first | (go_simp; done) | (go_simp; rfl)); intro gb175 hg w82 hbox hb; have n0_ := ak (below_step lb hb); have n1_ := ak (hbox); have n2_ := ak ((by rw [hg]; exact (below_size lb) : w.heap.size ≤ gb175)); have n3_ := ak ((by rw [hg]; exact (below_size lb) : w.heap.size ≤ gb175)); clear HB; have HB := n0_; have BK175 := n1_; have GW175 := n2_; have GE175 := n3_; clear n0_ n1_ n2_ n3_; clear hb hbox hg; have hcz83_0 : w82.cell? ⟨gb175, 0, none⟩ = some (.int .i64 a0_0) := (blk_cell BK175.out 0).trans rfl; have hcz83_1 : w82.cell? ⟨gb175, 1, none⟩ = some (.slice A0_1 l0_1.length c0_1) := (blk_cell BK175.out 1).trans rfl; have hfz83_0 := blk_frozen BK175.out 0; have hfz83_1 := blk_frozen BK175.out 1) | (go_at_call 29; (with_reducible refine (graph_Check.calls k a0_0 _ _ l0_1 t176 t177 _ ?side1 ?side2 A2.out).mono ?_); (case side1 => repeat (first | exact (Kd.C_below HR0_1.out HB.out) | (with_reducible refine Kd.C_alloc ?_ _) | (with_reducible refine Kd.C_drewN ?_ _) | (with_reducible refine Kd.C_drew ?_))); (case side2 => exact HC0_1.out); rintro e w84 ⟨rfl, hb⟩; have n0_ := ak (blk_below (bx BK175.out) hb); have n1_ := ak (below_step lb hb); clear BK175; clear HB; have BK175 := n0_; have HB := n1_; clear n0_ n1_; (try clear hb); (try clear hb2); (try clear hk); (try clear hi)) | ((with_reducible refine gate_dst (N := 5) rfl ?_); refine box_event ?hg (N := 5) ?hd (cs := #[.int .i64 0, .int .i64 0]) (t := 50) ?hr ?_; (case hd => rfl); (case hg => rfl); (case hr => first | (go_simp; done) | (go_simp; rfl)); intro gb178 hg w85 hbox hb; have n0_ := ak (blk_below (bx BK175.out) hb); have n1_ := ak (below_step lb hb); have n2_ := ak (hbox); have n3_ := ak ((by rw [hg]; exact (below_size lb) : w.heap.size ≤ gb178)); have n4_ := ak ((by rw [hg]; exact (below_size lb) : w.heap.size ≤ gb178)); have n5_ := ak ((by rw [hg]; exact Nat.ne_of_lt (blk_lt (g := gb175) (o := .cells #[.int .i64 a0_0, .slice A0_1 l0_1.length c0_1] 24 (0, 0)) (bx BK175.out)) : gb175 ≠ gb178)); have n6_ := ak ((by rw [hg]; exact Nat.ne_of_gt (blk_lt (g := gb175) (o := .cells #[.int .i64 a0_0, .slice A0_1 l0_1.length c0_1] 24 (0, 0)) (bx BK175.out)) : gb178 ≠ gb175)); clear BK175; clear HB; have BK175 := n0_; have HB := n1_; have BK178 := n2_; have GW178 := n3_; have GE178 := n4_; have NB175_178 := n5_; have NB178_175 := n6_; clear n0_ n1_ n2_ n3_ n4_ n5_ n6_; clear hb hbox hg; have hnb86 := NB178_175.out; have hnc86 := NB175_178.out; have hcz87_0 : w85.cell? ⟨gb178, 0, none⟩ = some (.int .i64 0) := (blk_cell BK178.out 0).trans rfl; have hcz87_1 : w85.cell? ⟨gb178, 1, none⟩ = some (.int .i64 0) := (blk_cell BK178.out 1).trans rfl; have hfz87_0 := blk_frozen BK178.out 0; have hfz87_1 := blk_frozen BK178.out 1)))
  go_ret3
  exact ⟨_, _, by first | rfl | (simp [errW_none, errW_some] <;> rfl) | (simp [*, errW_none, errW_some] <;> rfl), by first | exact Kd.R_nil _ _ _ _ _ | exact Kd.N_nil _ _ _ _ _ | exact Kd.V_nil _ _ _ _ _ | exact Kd.Q_nil _ _ _ _ _ | exact Kd.S_nil _ _ _ _ _, by first | exact Kd.R_nil _ _ _ _ _ | exact Kd.N_nil _ _ _ _ _ | exact Kd.V_nil _ _ _ _ _ | exact Kd.Q_nil _ _ _ _ _ | exact Kd.S_nil _ _ _ _ _, lb⟩

end Go.Proofs.Ytacklfnnpiobgaa.Q
