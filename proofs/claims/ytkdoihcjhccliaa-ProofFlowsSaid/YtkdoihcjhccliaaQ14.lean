-- PRINTED by print.py (a twelfth state) out of the translation. Not trusted: Lean checks it.
import Derived.Test.YtkdoihcjhccliaaQ0
namespace Go.Proofs.Ytkdoihcjhccliaa.Q
open Go.RowKit Go.Proofs.YtkdoihcjhccliaaW.PrintWords Go.Proofs.YtkdoihcjhccliaaW.PrintLast Go.Proofs.YtkdoihcjhccliaaW.PrintMore
attribute [local go_sem] max2_int min2_int max_two min_two max_three min_three max_four min_four   -- for this text's walks alone
set_option linter.unusedVariables false
set_option linter.unusedSimpArgs false

/-! ### proof_together: function 67 -/
mutual
def proof_together.l0 : Nat → List Bool → Int → Int → Int → List (S98) → Option (Bool)
  | 0, _, _, _, _, _ => none
  | k + 1, x3, x23, x24, x184000, x184001 => if x24 < x23 then (proof_together.l1 k x3 x23 x24 x184001 (x184001.length : Int) 0 x184000 x184001) else (proof_together.l2 k x3 x184001 (x184001.length : Int) 0)
def proof_together.l1 : Nat → List Bool → Int → Int → List (S98) → Int → Int → Int → List (S98) → Option (Bool)
  | 0, _, _, _, _, _, _, _, _ => none
  | k + 1, x3, x23, x24, x27, x28, x29, x184000, x184001 => if x29 < x28 then (if 0 ≤ x29 then (if x29 < (x27.length : Int) then (if 0 ≤ ((rd_T98 x27 x29).f0) then (if ((rd_T98 x27 x29).f0) < (x3.length : Int) then (if rdOf false x3 ((rd_T98 x27 x29).f0) = true then (if 0 ≤ ((rd_T98 x27 x29).f1) then (if ((rd_T98 x27 x29).f1) < (x3.length : Int) then (proof_together.l1 k ((x3.set (((rd_T98 x27 x29).f0) : Int).toNat true).set (((rd_T98 x27 x29).f1) : Int).toNat true) x23 x24 x27 x28 (wrap64 (x29 + 1)) x184000 x184001) else (none)) else (none)) else (if 0 ≤ ((rd_T98 x27 x29).f1) then (if ((rd_T98 x27 x29).f1) < (x3.length : Int) then (if rdOf false x3 ((rd_T98 x27 x29).f1) = true then (proof_together.l1 k ((x3.set (((rd_T98 x27 x29).f0) : Int).toNat true).set (((rd_T98 x27 x29).f1) : Int).toNat true) x23 x24 x27 x28 (wrap64 (x29 + 1)) x184000 x184001) else (proof_together.l1 k x3 x23 x24 x27 x28 (wrap64 (x29 + 1)) x184000 x184001)) else (none)) else (none))) else (none)) else (none)) else (none)) else (none)) else (proof_together.l0 k x3 x23 (wrap64 (x24 + 1)) x184000 x184001)
def proof_together.l2 : Nat → List Bool → List (S98) → Int → Int → Option (Bool)
  | 0, _, _, _, _ => none
  | k + 1, x3, x56, x57, x58 => if x58 < x57 then (if 0 ≤ x58 then (if x58 < (x56.length : Int) then (if 0 ≤ ((rd_T98 x56 x58).f0) then (if ((rd_T98 x56 x58).f0) < (x3.length : Int) then (if (rdOf false x3 ((rd_T98 x56 x58).f0) = true) then (proof_together.l2 k x3 x56 x57 (wrap64 (x58 + 1))) else (some false)) else (none)) else (none)) else (none)) else (none)) else (some true)
end
def proof_together.f (k : Nat) (a0_0 : Int) (l0_1 : List (S98)) : Option (Bool) := if (l0_1.length : Int) = 0 then (some true) else (if 0 ≤ a0_0 then (if (a0_0 : Int).toNat ≤ 281474976710656 then ((some (List.replicate (a0_0 : Int).toNat false : List Bool)).bind fun y184 => (if 0 < (l0_1.length : Int) then (if 0 ≤ ((rd_T98 l0_1 0).f0) then (if ((rd_T98 l0_1 0).f0) < (y184.length : Int) then (proof_together.l0 k (y184.set (((rd_T98 l0_1 0).f0) : Int).toNat true) a0_0 0 a0_0 l0_1) else (none)) else (none)) else (none))) else (none)) else (none))
theorem proof_together.mono_l : ∀ k, (∀ y0 y1 y2 y3 y4, LeO (proof_together.l0 k y0 y1 y2 y3 y4) (proof_together.l0 (k + 1) y0 y1 y2 y3 y4)) ∧ (∀ y0 y1 y2 y3 y4 y5 y6 y7, LeO (proof_together.l1 k y0 y1 y2 y3 y4 y5 y6 y7) (proof_together.l1 (k + 1) y0 y1 y2 y3 y4 y5 y6 y7)) ∧ (∀ y0 y1 y2 y3, LeO (proof_together.l2 k y0 y1 y2 y3) (proof_together.l2 (k + 1) y0 y1 y2 y3))
  | 0 => ⟨fun _ _ _ _ _ r h => by simp [proof_together.l0] at h, fun _ _ _ _ _ _ _ _ r h => by simp [proof_together.l1] at h, fun _ _ _ _ r h => by simp [proof_together.l2] at h⟩
  | k + 1 => by
    obtain ⟨ih0, ih1, ih2⟩ := proof_together.mono_l k
    refine ⟨?_, ?_, ?_⟩
    · intro y0 y1 y2 y3 y4
      unfold proof_together.l0
      repeat' first
      | (with_reducible exact ih0 _ _ _ _ _)
      | (with_reducible exact ih1 _ _ _ _ _ _ _ _)
      | (with_reducible exact ih2 _ _ _ _)
      | (with_reducible exact LeO.refl _)
      | (with_reducible exact LeO.none _)
      | (with_reducible refine LeO.ite ?_ ?_)
      | (with_reducible refine LeO.bind ?_ (fun _ => ?_))
      | exact ih0 _ _ _ _ _
      | exact ih1 _ _ _ _ _ _ _ _
      | exact ih2 _ _ _ _
      | exact LeO.none _
      | refine LeO.ite ?_ ?_
      | refine LeO.bind ?_ (fun _ => ?_)
    · intro y0 y1 y2 y3 y4 y5 y6 y7
      unfold proof_together.l1
      repeat' first
      | (with_reducible exact ih0 _ _ _ _ _)
      | (with_reducible exact ih1 _ _ _ _ _ _ _ _)
      | (with_reducible exact ih2 _ _ _ _)
      | (with_reducible exact LeO.refl _)
      | (with_reducible exact LeO.none _)
      | (with_reducible refine LeO.ite ?_ ?_)
      | (with_reducible refine LeO.bind ?_ (fun _ => ?_))
      | exact ih0 _ _ _ _ _
      | exact ih1 _ _ _ _ _ _ _ _
      | exact ih2 _ _ _ _
      | exact LeO.none _
      | refine LeO.ite ?_ ?_
      | refine LeO.bind ?_ (fun _ => ?_)
    · intro y0 y1 y2 y3
      unfold proof_together.l2
      repeat' first
      | (with_reducible exact ih0 _ _ _ _ _)
      | (with_reducible exact ih1 _ _ _ _ _ _ _ _)
      | (with_reducible exact ih2 _ _ _ _)
      | (with_reducible exact LeO.refl _)
      | (with_reducible exact LeO.none _)
      | (with_reducible refine LeO.ite ?_ ?_)
      | (with_reducible refine LeO.bind ?_ (fun _ => ?_))
      | exact ih0 _ _ _ _ _
      | exact ih1 _ _ _ _ _ _ _ _
      | exact ih2 _ _ _ _
      | exact LeO.none _
      | refine LeO.ite ?_ ?_
      | refine LeO.bind ?_ (fun _ => ?_)
theorem proof_together.mono : ∀ a0 a1 k, LeO (proof_together.f k a0 a1) (proof_together.f (k + 1) a0 a1) := by
  intro a0 a1 k
  obtain ⟨ih0, ih1, ih2⟩ := proof_together.mono_l k
  unfold proof_together.f
  repeat' first
      | (with_reducible exact ih0 _ _ _ _ _)
      | (with_reducible exact ih1 _ _ _ _ _ _ _ _)
      | (with_reducible exact ih2 _ _ _ _)
      | (with_reducible exact LeO.refl _)
      | (with_reducible exact LeO.none _)
      | (with_reducible refine LeO.ite ?_ ?_)
      | (with_reducible refine LeO.bind ?_ (fun _ => ?_))
      | exact ih0 _ _ _ _ _
      | exact ih1 _ _ _ _ _ _ _ _
      | exact ih2 _ _ _ _
      | exact LeO.none _
      | refine LeO.ite ?_ ?_
      | refine LeO.bind ?_ (fun _ => ?_)
def proof_together.T11 : Bool × List (List Nat × List Nat) := (true, [([], []), ([], []), ([1], [1]), ([], []), ([], []), ([4], [4]), ([0, 2, 0, 1, 2], [0, 2]), ([6, 0, 1, 2], [6]), ([3, 5, 0, 1, 2, 3, 4, 5, 6, 7], [3, 5]), ([8, 7, 0, 1, 2, 3, 4, 5, 6, 7], [8])])
def proof_together.B11 : List Nat := [0, 0, 2, 0, 0, 16, 7, 71, 255, 511]
theorem proof_together.tab11 : rtab .any (opsOf Try.f67 11) = proof_together.T11 := by kernel_rfl
theorem proof_together.bits11 : waitsOk proof_together.T11.2 proof_together.B11 = true := by kernel_rfl
set_option maxHeartbeats 8000000 in
set_option maxRecDepth 100000 in
theorem proof_together.calls (k : Nat) (a0_0 : Int) (A0_1 : Option Addr) (c0_1 : Nat) (l0_1 : List (S98)) (r : Bool) (w : World) (hr0_1 : Kd.C k98 w A0_1 l0_1.length l0_1) (hc0_1 : l0_1.length ≤ c0_1) (h : proof_together.f k a0_0 l0_1 = some r) :
    Calls Try.prog 67 #[.agg #[.int .i64 a0_0, .slice A0_1 l0_1.length c0_1]] w fun e w' => e = .returned (.bool r) ∧ Below w.heap.size w w' := by
 have hu24 := Try.underlying24
 have hu98 := Try.underlying98
 have HR0_1 := ak hr0_1
 have HC0_1 := ak hc0_1
 clear hr0_1 hc0_1
 have HB := ak (Below.refl w.heap.size w)
 have H : (if (l0_1.length : Int) = 0 then (some true) else (if 0 ≤ a0_0 then (if (a0_0 : Int).toNat ≤ 281474976710656 then ((some (List.replicate (a0_0 : Int).toNat false : List Bool)).bind fun y184 => (if 0 < (l0_1.length : Int) then (if 0 ≤ ((rd_T98 l0_1 0).f0) then (if ((rd_T98 l0_1 0).f0) < (y184.length : Int) then (proof_together.l0 k (y184.set (((rd_T98 l0_1 0).f0) : Int).toNat true) a0_0 0 a0_0 l0_1) else (none)) else (none)) else (none))) else (none)) else (none))) = some r := h
 clear h
 by_cases c2 : (l0_1.length : Int) = 0
 ·
  rw [if_pos c2] at H
  have c2b0 : ((l0_1.length : Int) == 0) = true := beq_iff_eq.mpr c2
  have c2b1 : ((l0_1.length : Int) != 0) = false := bne_eq_false_iff_eq.mpr c2
  clear c2
  obtain rfl := Option.some.inj H
  go_enter Try.func67, Try.ntmps67
  go_wp2_with (first | ((with_reducible refine gate_dst (N := 1) rfl ?_); refine box_event ?hg (N := 1) ?hd (cs := #[.int .i64 a0_0, .slice A0_1 l0_1.length c0_1]) (t := 24) ?hr ?_; (case hd => rfl); (case hg => rfl); (case hr => first | (go_simp; done) | (go_simp; rfl)); intro gb183 hg w3 hbox hb; have n0_ := ak (below_step lb hb); have n1_ := ak (hbox); have n2_ := ak ((by rw [hg]; exact (below_size lb) : w.heap.size ≤ gb183)); have n3_ := ak ((by rw [hg]; exact (below_size lb) : w.heap.size ≤ gb183)); clear HB; have HB := n0_; have BK183 := n1_; have GW183 := n2_; have GE183 := n3_; clear n0_ n1_ n2_ n3_; clear hb hbox hg; have hcz4_0 : w3.cell? ⟨gb183, 0, none⟩ = some (.int .i64 a0_0) := (blk_cell BK183.out 0).trans rfl; have hcz4_1 : w3.cell? ⟨gb183, 1, none⟩ = some (.slice A0_1 l0_1.length c0_1) := (blk_cell BK183.out 1).trans rfl; have hfz4_0 := blk_frozen BK183.out 0; have hfz4_1 := blk_frozen BK183.out 1))
  go_ret
  exact ⟨by first | rfl | (simp [errW_none, errW_some] <;> rfl) | (simp [*, errW_none, errW_some] <;> rfl), lb⟩
 ·
  rw [if_neg c2] at H
  have c2b0 : ((l0_1.length : Int) == 0) = false := beq_eq_false_iff_ne.mpr c2
  have c2b1 : ((l0_1.length : Int) != 0) = true := bne_iff_ne.mpr c2
  have c2b2 : ¬ (l0_1 = []) := fun h_ => c2 (by rw [h_]; rfl)
  by_cases c5 : 0 ≤ a0_0
  rotate_left
  ·
   rw [if_neg c5] at H
   exact absurd H (by simp)

  rw [if_pos c5] at H
  have c5b0 := eq_true c5
  have c5b1 : decide (0 ≤ a0_0) = true := decide_eq_true c5
  clear c5
  by_cases c6 : (a0_0 : Int).toNat ≤ 281474976710656
  rotate_left
  ·
   rw [if_neg c6] at H
   exact absurd H (by simp)
  rw [if_pos c6] at H
  have c6b0 := eq_true c6
  have c6b1 : decide ((a0_0 : Int).toNat ≤ 281474976710656) = true := decide_eq_true c6
  clear c6
  obtain ⟨y184, hy184⟩ : ∃ y_ : List Bool, y_ = (List.replicate (a0_0 : Int).toNat false) := ⟨_, rfl⟩
  replace H : (if 0 < (l0_1.length : Int) then (if 0 ≤ ((rd_T98 l0_1 0).f0) then (if ((rd_T98 l0_1 0).f0) < (y184.length : Int) then (proof_together.l0 k (y184.set (((rd_T98 l0_1 0).f0) : Int).toNat true) a0_0 0 a0_0 l0_1) else (none)) else (none)) else (none)) = some r := by first | (rw [hy184]; exact H) | exact H
  have Ny184 := ak hy184
  clear hy184
  by_cases c7 : 0 < (l0_1.length : Int)
  rotate_left
  ·
   rw [if_neg c7] at H
   exact absurd H (by simp)
  rw [if_pos c7] at H
  have c7b0 : decide (0 < (l0_1.length : Int)) = true := decide_eq_true c7
  have c7b1 : decide (0 < l0_1.length) = true := decide_eq_true (by omega)
  clear c7
  by_cases c8 : 0 ≤ ((rd_T98 l0_1 0).f0)
  rotate_left
  ·
   rw [if_neg c8] at H
   exact absurd H (by simp)
  rw [if_pos c8] at H
  have c8b0 : decide (0 ≤ ((rd_T98 l0_1 0).f0)) = true := decide_eq_true c8
  clear c8
  by_cases c9 : ((rd_T98 l0_1 0).f0) < (y184.length : Int)
  rotate_left
  ·
   rw [if_neg c9] at H
   exact absurd H (by simp)
  rw [if_pos c9] at H
  have c9b0 : decide (((rd_T98 l0_1 0).f0) < (y184.length : Int)) = true := decide_eq_true c9
  clear c9
  obtain ⟨y188, hy188⟩ : ∃ y_ : List Bool, y_ = (y184.set (((rd_T98 l0_1 0).f0) : Int).toNat true) := ⟨_, rfl⟩
  replace H : (proof_together.l0 k y188 a0_0 0 a0_0 l0_1) = some r := by first | (rw [hy188]; exact H) | exact H
  have Ny188 := ak hy188
  clear hy188
  have H' := ak H
  clear H
  go_enter Try.func67, Try.ntmps67
  go_wp2_with (first | ((with_reducible refine gate_dst (N := 1) rfl ?_); refine box_event ?hg (N := 1) ?hd (cs := #[.int .i64 a0_0, .slice A0_1 l0_1.length c0_1]) (t := 24) ?hr ?_; (case hd => rfl); (case hg => rfl); (case hr => first | (go_simp; done) | (go_simp; rfl)); intro gb183 hg w11 hbox hb; have n0_ := ak (below_step lb hb); have n1_ := ak (hbox); have n2_ := ak ((by rw [hg]; exact (below_size lb) : w.heap.size ≤ gb183)); have n3_ := ak ((by rw [hg]; exact (below_size lb) : w.heap.size ≤ gb183)); clear HB; have HB := n0_; have BK183 := n1_; have GW183 := n2_; have GE183 := n3_; clear n0_ n1_ n2_ n3_; clear hb hbox hg; have hcz12_0 : w11.cell? ⟨gb183, 0, none⟩ = some (.int .i64 a0_0) := (blk_cell BK183.out 0).trans rfl; have hcz12_1 : w11.cell? ⟨gb183, 1, none⟩ = some (.slice A0_1 l0_1.length c0_1) := (blk_cell BK183.out 1).trans rfl; have hfz12_0 := blk_frozen BK183.out 0; have hfz12_1 := blk_frozen BK183.out 1) | ((with_reducible refine gate_dst (N := 14) rfl ?_); refine Kd.R_make Kd.bool _ 4 rfl (N := 14) rfl 26 _ _ rfl a0_0 rfl rfl Try.underlying26 (.bool false) 1 info4 rfl (by decide) (by omega) false (ok := fun _ => True) (okp := fun _ => True) rfl (fun _ hk => hk) trivial (oda) (Nat.le_trans (Nat.mul_le_mul_right _ (oda : a0_0.toNat ≤ 281474976710656)) (by omega)) (Below.refl _ _) (Nat.le_refl _) ?_; intro v185 w13 ho14 hb hg_ hnew_; clear hg_ hnew_; (first | rw [← Ny184.out] at ho14 | (simp only [Int.reduceToNat] at ho14; rw [← Ny184.out] at ho14)); have n0_ := ak (Kd.R_lower ho14 (below_size lb)); have n1_ := ak (blk_below (bx BK183.out) hb); have n2_ := ak (below_step lb hb); clear BK183; clear HB; have HO186 := n0_; have BK183 := n1_; have HB := n2_; clear n0_ n1_ n2_; clear hb ho14; have hcz15_0 : w13.cell? ⟨gb183, 0, none⟩ = some (.int .i64 a0_0) := (blk_cell BK183.out 0).trans rfl; have hcz15_1 : w13.cell? ⟨gb183, 1, none⟩ = some (.slice A0_1 l0_1.length c0_1) := (blk_cell BK183.out 1).trans rfl; have hfz15_0 := blk_frozen BK183.out 0; have hfz15_1 := blk_frozen BK183.out 1; have p187 : 0 ≤ (0 : Int) := (by omega); have q187 : 0 < (l0_1.length : Int) := oda; obtain ⟨ad187, e187, hx187_0, hx187_1, hx187_2, hx187_3⟩ := at_T98 HR0_1.out 0 p187 q187; cases e187; have qi187 : (0 < l0_1.length) = True := eq_true (by omega); (try rw [show ((0 : Int)).toNat = 0 from rfl] at hx187_0); (try rw [show 0 * 4 = 0 from rfl] at hx187_0); (try rw [Addr.add_zero'] at hx187_0); (try rw [show ((0 : Int)).toNat = 0 from rfl] at hx187_1); (try rw [show 0 * 4 = 0 from rfl] at hx187_1); (try rw [Addr.add_zero'] at hx187_1); (try rw [show ((0 : Int)).toNat = 0 from rfl] at hx187_2); (try rw [show 0 * 4 = 0 from rfl] at hx187_2); (try rw [Addr.add_zero'] at hx187_2); (try rw [show ((0 : Int)).toNat = 0 from rfl] at hx187_3); (try rw [show 0 * 4 = 0 from rfl] at hx187_3); (try rw [Addr.add_zero'] at hx187_3); replace hx187_0 := (HB.out.cell (World.block_lt_of_cell? w _ hx187_0)).trans hx187_0; replace hx187_1 := (HB.out.cell (World.block_lt_of_cell? w _ hx187_1)).trans hx187_1; replace hx187_2 := (HB.out.cell (World.block_lt_of_cell? w _ hx187_2)).trans hx187_2; replace hx187_3 := (HB.out.cell (World.block_lt_of_cell? w _ hx187_3)).trans hx187_3; replace p187 := eq_true p187; replace q187 := eq_true q187; have p10 : 0 ≤ (((rd_T98 l0_1 0).f0) : Int) := oda; have q10 : (((rd_T98 l0_1 0).f0) : Int) < ((y184.length : Int) : Int) := oda; obtain ⟨go10, co10, eo10, gb10, gl10, cl10, HG10⟩ := Kd.R_form HO186.out (by omega); (first | cases eo10 | (injection eo10 with ea_ en_ ec_; (first | subst ea_ | (injection ea_ with ea_; subst ea_)); subst ec_; clear en_)); have GB10 := ak gb10; have GG10 := ak HG10; clear gb10 gl10 HG10; obtain ⟨hx10_0, hf10_0⟩ := Kd.R_celln false HO186.out (((rd_T98 l0_1 0).f0) : Int) p10 q10; replace p10 := eq_true p10; replace q10 := eq_true q10; obtain ⟨hy16_, hz16_⟩ := Kd.R_celln false HO186.out (((rd_T98 l0_1 0).f0) : Int) (oda) (oda); have HP16 := Kd.R_putg HO186.out (((rd_T98 l0_1 0).f0) : Int) true) | ((with_reducible refine gate_store (t := 4) (p := 21) rfl ?_); refine store_event (t := 4) (p := 21) (v := ?vo_w17) (w1 := (w13.setCell ⟨go10, (((rd_T98 l0_1 0).f0) : Int).toNat, none⟩ (.bool true))) ?hg ?ho ?hn ?hr ?_; (case ho => rfl); (case hg => rfl); (case hn => rfl); (case hr => first | (go_simp; done) | (go_simp; rfl)); intro w17 hw; have hg : w13.grownBy w17 (some go10) := (by rw [hw]; exact HP16.2); have hp_ : Kd.R Kd.bool 4 w17 w.heap.size (fun _ => True) (.slice (some ⟨go10, 0, none⟩) y184.length co10) y188 := (by rw [hw, Ny188.out]; exact HP16.1); clear HP16; have n0_ := ak (blk_grown (bx BK183.out) hg (Kd.R_ne HO186.out BK183.out (by decide))); have n1_ := ak (hp_); have n2_ := ak ((by rw [hw]; exact below_set (HB.out) GB10.out : Below w.heap.size w w17)); clear BK183; clear HO186; clear HB; have BK183 := n0_; have HO186 := n1_; have HB := n2_; clear n0_ n1_ n2_; clear hg hw hp_; have hcz18_0 : w17.cell? ⟨gb183, 0, none⟩ = some (.int .i64 a0_0) := (blk_cell BK183.out 0).trans rfl; have hcz18_1 : w17.cell? ⟨gb183, 1, none⟩ = some (.slice (some ad187) l0_1.length c0_1) := (blk_cell BK183.out 1).trans rfl; have hfz18_0 := blk_frozen BK183.out 0; have hfz18_1 := blk_frozen BK183.out 1))
  go_loopg [24] k (fun kq v24 w' => ∃ (x3_1 : List Bool) (x24_1 : Int), v24 = .int .i64 x24_1 ∧ Aside0 (proof_together.l0 kq x3_1 a0_0 x24_1 a0_0 l0_1 = some r) ∧ Aside0 (kq ≤ k) ∧ Aside0 (Kd.R Kd.bool 4 w' w.heap.size (fun _ => True) (.slice (some ⟨go10, 0, none⟩) y184.length co10) x3_1) ∧ Aside0 (w'.heap[gb183]? = some (.cells #[.int .i64 a0_0, (.slice (some ad187) l0_1.length c0_1)] 24 (0, 0))) ∧ Aside0 (Below w.heap.size w w'))
  case atStart => exact ⟨(y188), (0), (by first | rfl | (simp [*]; done)), H', ⟨Nat.le_refl _⟩, ⟨rx HO186.out⟩, ⟨bx BK183.out⟩, ⟨lb⟩⟩
  case round =>
   clear H'
   try clear p1; try clear q1; try clear hx1; try clear qi1; try clear hf1; try clear c2; try clear c2b0; try clear c2b1; try clear c2b2; try clear p2; try clear c5; try clear c5b0; try clear c5b1; try clear c6; try clear c6b0; try clear c6b1; try clear c7; try clear c7b0; try clear c7b1; try clear c8; try clear c8b0; try clear c9; try clear c9b0; try clear p10; try clear q10; try clear hx10; try clear hf10; try clear p18; try clear q18; try clear hx18; try clear qi18; try clear hcz12_0; try clear hcz12_1; try clear hcz15_0; try clear hcz15_1; try clear hcz18_0; try clear hcz18_1; try clear hcz4_0; try clear hcz4_1; try clear hfz12_0; try clear hfz12_1; try clear hfz15_0; try clear hfz15_1; try clear hfz18_0; try clear hfz18_1; try clear hfz4_0; try clear hfz4_1; try clear hx10_0; try clear hx187_0; try clear hx187_1; try clear hx187_2; try clear hx187_3; try clear p10; try clear p187; try clear q10; try clear q187
   obtain ⟨x3_1, x24_1, rfl, HA, HK1, HO_3, BK183, HB⟩ := hrel
   have hl3_1 := (Kd.R_reads' HO_3.out).1
   rw [hl3_1] at HO_3
   (try simp only [hl3_1])
   (try simp only [hl3_1] at BK183)
   cases gk with
   | zero => exact absurd HA.out (by simp [proof_together.l0])
   | succ k1 =>
    have H := HA.out
    clear HA
    simp only [proof_together.l0] at H
    by_cases c19 : x24_1 < a0_0
    ·
     rw [if_pos c19] at H
     have c19b0 : decide (x24_1 < a0_0) = true := decide_eq_true c19
     clear c19
     have H' := ak H
     clear H
     have hcz20_0 : wr.cell? ⟨gb183, 0, none⟩ = some (.int .i64 a0_0) := (blk_cell BK183.out 0).trans rfl
     have hcz20_1 : wr.cell? ⟨gb183, 1, none⟩ = some (.slice (some ad187) l0_1.length c0_1) := (blk_cell BK183.out 1).trans rfl
     have hfz20_0 := blk_frozen BK183.out 0
     have hfz20_1 := blk_frozen BK183.out 1
     go_wp2
     go_loopg [29] k1 (fun kq v29 w' => ∃ (x3_2 : List Bool) (x29_2 : Int), v29 = .int .i64 x29_2 ∧ Aside0 (proof_together.l1 kq x3_2 a0_0 x24_1 l0_1 (l0_1.length : Int) x29_2 a0_0 l0_1 = some r) ∧ Aside0 (kq ≤ k1) ∧ Aside0 (Kd.R Kd.bool 4 w' w.heap.size (fun _ => True) (.slice (some ⟨go10, 0, none⟩) x3_1.length co10) x3_2) ∧ Aside0 (w'.heap[gb183]? = some (.cells #[.int .i64 a0_0, (.slice (some ad187) l0_1.length c0_1)] 24 (0, 0))) ∧ Aside0 (Below w.heap.size w w'))
     case atStart => exact ⟨(x3_1), (0), (by first | rfl | (simp [*]; done)), H', ⟨Nat.le_refl _⟩, ⟨by (try simp only [hl3_1]); exact rx HO_3.out⟩, ⟨by (try simp only [hl3_1]); exact bx BK183.out⟩, ⟨lb⟩⟩
     case round =>
      clear H'
      try clear c1; try clear p1; try clear q1; try clear hx1; try clear qi1; try clear hf1; try clear c2; try clear c2b0; try clear c2b1; try clear c2b2; try clear p2; try clear c5; try clear c5b0; try clear c5b1; try clear c6; try clear c6b0; try clear c6b1; try clear c7; try clear c7b0; try clear c7b1; try clear c8; try clear c8b0; try clear c9; try clear c9b0; try clear p10; try clear q10; try clear hx10; try clear hf10; try clear p18; try clear q18; try clear hx18; try clear qi18; try clear c19; try clear c19b0; try clear hcz12_0; try clear hcz12_1; try clear hcz15_0; try clear hcz15_1; try clear hcz18_0; try clear hcz18_1; try clear hcz20_0; try clear hcz20_1; try clear hcz4_0; try clear hcz4_1; try clear hfz12_0; try clear hfz12_1; try clear hfz15_0; try clear hfz15_1; try clear hfz18_0; try clear hfz18_1; try clear hfz20_0; try clear hfz20_1; try clear hfz4_0; try clear hfz4_1; try clear hx10_0; try clear hx187_0; try clear hx187_1; try clear hx187_2; try clear hx187_3; try clear p1; try clear p10; try clear p18; try clear p187; try clear p2; try clear q1; try clear q10; try clear q18; try clear q187
      obtain ⟨x3_2, x29_2, rfl, HA, HK2, HO_3, BK183, HB⟩ := hrel
      have hl3_2 := (Kd.R_reads' HO_3.out).1
      rw [hl3_2] at HO_3
      (try simp only [hl3_2])
      (try simp only [hl3_2] at BK183)
      cases gk with
      | zero => exact absurd HA.out (by simp [proof_together.l1])
      | succ k2 =>
       have H := HA.out
       clear HA
       simp only [proof_together.l1] at H
       by_cases c21 : x29_2 < (l0_1.length : Int)
       ·
        rw [if_pos c21] at H
        have c21b0 : decide (x29_2 < (l0_1.length : Int)) = true := decide_eq_true c21
        clear c21
        by_cases c22 : 0 ≤ x29_2
        rotate_left
        ·
         rw [if_neg c22] at H
         exact absurd H (by simp)
        rw [if_pos c22] at H
        have c22b0 : decide (0 ≤ x29_2) = true := decide_eq_true c22
        clear c22
        by_cases c23 : x29_2 < (l0_1.length : Int)
        rotate_left
        ·
         rw [if_neg c23] at H
         exact absurd H (by simp)
        rw [if_pos c23] at H
        have c23b0 : decide (x29_2 < (l0_1.length : Int)) = true := decide_eq_true c23
        clear c23
        by_cases c24 : 0 ≤ ((rd_T98 l0_1 x29_2).f0)
        rotate_left
        ·
         rw [if_neg c24] at H
         exact absurd H (by simp)
        rw [if_pos c24] at H
        have c24b0 : decide (0 ≤ ((rd_T98 l0_1 x29_2).f0)) = true := decide_eq_true c24
        clear c24
        by_cases c25 : ((rd_T98 l0_1 x29_2).f0) < (x3_2.length : Int)
        rotate_left
        ·
         rw [if_neg c25] at H
         exact absurd H (by simp)
        rw [if_pos c25] at H
        have c25b0 : decide (((rd_T98 l0_1 x29_2).f0) < (x3_2.length : Int)) = true := decide_eq_true c25
        clear c25
        obtain ⟨bq26, hbq26⟩ : ∃ b_ : Bool, b_ = (rdOf false x3_2 ((rd_T98 l0_1 x29_2).f0)) := ⟨_, rfl⟩
        replace H : (if bq26 = true then (if 0 ≤ ((rd_T98 l0_1 x29_2).f1) then (if ((rd_T98 l0_1 x29_2).f1) < (x3_2.length : Int) then (proof_together.l1 k2 ((x3_2.set (((rd_T98 l0_1 x29_2).f0) : Int).toNat true).set (((rd_T98 l0_1 x29_2).f1) : Int).toNat true) a0_0 x24_1 l0_1 (l0_1.length : Int) (wrap64 (x29_2 + 1)) a0_0 l0_1) else (none)) else (none)) else (if 0 ≤ ((rd_T98 l0_1 x29_2).f1) then (if ((rd_T98 l0_1 x29_2).f1) < (x3_2.length : Int) then (if rdOf false x3_2 ((rd_T98 l0_1 x29_2).f1) = true then (proof_together.l1 k2 ((x3_2.set (((rd_T98 l0_1 x29_2).f0) : Int).toNat true).set (((rd_T98 l0_1 x29_2).f1) : Int).toNat true) a0_0 x24_1 l0_1 (l0_1.length : Int) (wrap64 (x29_2 + 1)) a0_0 l0_1) else (proof_together.l1 k2 x3_2 a0_0 x24_1 l0_1 (l0_1.length : Int) (wrap64 (x29_2 + 1)) a0_0 l0_1)) else (none)) else (none))) = some r := by rw [← hbq26] at H; exact H
        have Nbq26 := ak hbq26
        clear hbq26
        by_cases c27 : bq26 = true
        ·
         subst c27
         have H1 : (if 0 ≤ ((rd_T98 l0_1 x29_2).f1) then (if ((rd_T98 l0_1 x29_2).f1) < (x3_2.length : Int) then (proof_together.l1 k2 ((x3_2.set (((rd_T98 l0_1 x29_2).f0) : Int).toNat true).set (((rd_T98 l0_1 x29_2).f1) : Int).toNat true) a0_0 x24_1 l0_1 (l0_1.length : Int) (wrap64 (x29_2 + 1)) a0_0 l0_1) else (none)) else (none)) = some r := by rw [if_pos rfl] at H; exact H
         clear H
         have H := H1
         clear H1
         obtain ⟨y192, hy192⟩ : ∃ y_ : List Bool, y_ = (x3_2.set (((rd_T98 l0_1 x29_2).f0) : Int).toNat true) := ⟨_, rfl⟩
         replace H : (if 0 ≤ ((rd_T98 l0_1 x29_2).f1) then (if ((rd_T98 l0_1 x29_2).f1) < (x3_2.length : Int) then (proof_together.l1 k2 (y192.set (((rd_T98 l0_1 x29_2).f1) : Int).toNat true) a0_0 x24_1 l0_1 (l0_1.length : Int) (wrap64 (x29_2 + 1)) a0_0 l0_1) else (none)) else (none)) = some r := by first | (rw [hy192]; exact H) | exact H
         have Ny192 := ak hy192
         clear hy192
         by_cases c29 : 0 ≤ ((rd_T98 l0_1 x29_2).f1)
         rotate_left
         ·
          rw [if_neg c29] at H
          exact absurd H (by simp)
         rw [if_pos c29] at H
         have c29b0 : decide (0 ≤ ((rd_T98 l0_1 x29_2).f1)) = true := decide_eq_true c29
         clear c29
         by_cases c30 : ((rd_T98 l0_1 x29_2).f1) < (x3_2.length : Int)
         rotate_left
         ·
          rw [if_neg c30] at H
          exact absurd H (by simp)
         rw [if_pos c30] at H
         have c30b0 : decide (((rd_T98 l0_1 x29_2).f1) < (x3_2.length : Int)) = true := decide_eq_true c30
         clear c30
         obtain ⟨y193, hy193⟩ : ∃ y_ : List Bool, y_ = (y192.set (((rd_T98 l0_1 x29_2).f1) : Int).toNat true) := ⟨_, rfl⟩
         replace H : (proof_together.l1 k2 y193 a0_0 x24_1 l0_1 (l0_1.length : Int) (wrap64 (x29_2 + 1)) a0_0 l0_1) = some r := by first | (rw [hy193]; exact H) | exact H
         have Ny193 := ak hy193
         clear hy193
         have H' := ak H
         clear H
         have p189 : 0 ≤ (x29_2 : Int) := oda
         have q189 : x29_2 < (l0_1.length : Int) := oda
         obtain ⟨ad189, e189, hx189_0, hx189_1, hx189_2, hx189_3⟩ := at_T98 HR0_1.out x29_2 p189 q189
         obtain rfl : ad187 = ad189 := (by injection e189)
         (try replace hx189_0 := (HB.out.cell (World.block_lt_of_cell? w _ hx189_0)).trans hx189_0)
         (try replace hx189_1 := (HB.out.cell (World.block_lt_of_cell? w _ hx189_1)).trans hx189_1)
         (try replace hx189_2 := (HB.out.cell (World.block_lt_of_cell? w _ hx189_2)).trans hx189_2)
         (try replace hx189_3 := (HB.out.cell (World.block_lt_of_cell? w _ hx189_3)).trans hx189_3)
         replace p189 := eq_true p189
         replace q189 := eq_true q189
         try go_wp2_with (first | ((with_reducible refine gate_dst (N := 5) rfl ?_); refine box_event ?hg (N := 5) ?hd (cs := #[.int .i64 0, .int .i64 0, .int .i64 0, .int .i64 0]) (t := 98) ?hr ?_; (case hd => rfl); (case hg => rfl); (case hr => first | (go_simp; done) | (go_simp; rfl)); intro gb190 hg w32 hbox hb; have n0_ := ak (Kd.R_below (rx HO_3.out) hb); have n1_ := ak (blk_below (bx BK183.out) hb); have n2_ := ak (below_step lb hb); have n3_ := ak (hbox); have n4_ := ak ((by rw [hg]; exact (below_size lb) : w.heap.size ≤ gb190)); have n5_ := ak ((by rw [hg]; exact (below_size lb) : w.heap.size ≤ gb190)); have n6_ := ak ((by rw [hg]; exact Nat.ne_of_lt (blk_lt (g := gb183) (o := .cells #[.int .i64 a0_0, .slice (some ad187) l0_1.length c0_1] 24 (0, 0)) (bx BK183.out)) : gb183 ≠ gb190)); have n7_ := ak ((by rw [hg]; exact Nat.ne_of_gt (blk_lt (g := gb183) (o := .cells #[.int .i64 a0_0, .slice (some ad187) l0_1.length c0_1] 24 (0, 0)) (bx BK183.out)) : gb190 ≠ gb183)); clear HO_3; clear BK183; clear HB; have HO_3 := n0_; have BK183 := n1_; have HB := n2_; have BK190 := n3_; have GW190 := n4_; have GE190 := n5_; have NB183_190 := n6_; have NB190_183 := n7_; clear n0_ n1_ n2_ n3_ n4_ n5_ n6_ n7_; clear hb hbox hg; have hnb33 := NB190_183.out; have hnc33 := NB183_190.out; have hcz34_0 : w32.cell? ⟨gb190, 0, none⟩ = some (.int .i64 0) := (blk_cell BK190.out 0).trans rfl; have hcz34_1 : w32.cell? ⟨gb190, 1, none⟩ = some (.int .i64 0) := (blk_cell BK190.out 1).trans rfl; have hcz34_2 : w32.cell? ⟨gb190, 2, none⟩ = some (.int .i64 0) := (blk_cell BK190.out 2).trans rfl; have hcz34_3 : w32.cell? ⟨gb190, 3, none⟩ = some (.int .i64 0) := (blk_cell BK190.out 3).trans rfl; have hfz34_0 := blk_frozen BK190.out 0; have hfz34_1 := blk_frozen BK190.out 1; have hfz34_2 := blk_frozen BK190.out 2; have hfz34_3 := blk_frozen BK190.out 3; have p191 : 0 ≤ (((rd_T98 l0_1 x29_2).f0) : Int) := oda; have q191 : ((rd_T98 l0_1 x29_2).f0) < (x3_2.length : Int) := oda; obtain ⟨ad191, e191, hx191_0⟩ := Kd.at_bool (Kd.R_reads' HO_3.out).2.2 ((rd_T98 l0_1 x29_2).f0) p191 q191; (try rw [← Nbq26.out] at hx191_0); obtain rfl : (⟨go10, 0, none⟩ : Addr) = ad191 := (by injection e191); (first | simp only [add_plain] at hx191_0 | simp only [add_at] at hx191_0 | simp only [Addr.add, Nat.zero_add] at hx191_0 | skip); have hn191_0 : (⟨go10, 0, none⟩ : Addr).block ≠ gb190 := Kd.own_blk (Kd.R_ne HO_3.out BK190.out (by decide)); have hn191_1 : (⟨go10, 0, none⟩ : Addr).block ≠ gb190 := Kd.own_blk (Kd.R_ne HO_3.out BK190.out (by decide)); have hn191_2 : (⟨go10, 0, none⟩ : Addr).block ≠ gb190 := Kd.own_blk (Kd.R_ne HO_3.out BK190.out (by decide)); have hn191_3 : (⟨go10, 0, none⟩ : Addr).block ≠ gb190 := Kd.own_blk (Kd.R_ne HO_3.out BK190.out (by decide)); replace hx191_0 := (cell_far (p := ⟨gb190, 0, none⟩) (by first | (rw [add_block]; exact hn191_0) | (show (Addr.add _ _).block ≠ _; rw [add_block]; exact hn191_0) | exact hn191_0) (.int .i64 ((rd_T98 l0_1 x29_2).f0))).trans hx191_0; replace hx191_0 := (cell_far (p := ⟨gb190, 1, none⟩) (by first | (rw [add_block]; exact hn191_1) | (show (Addr.add _ _).block ≠ _; rw [add_block]; exact hn191_1) | exact hn191_1) (.int .i64 ((rd_T98 l0_1 x29_2).f1))).trans hx191_0; replace hx191_0 := (cell_far (p := ⟨gb190, 2, none⟩) (by first | (rw [add_block]; exact hn191_2) | (show (Addr.add _ _).block ≠ _; rw [add_block]; exact hn191_2) | exact hn191_2) (.int .i64 ((rd_T98 l0_1 x29_2).f2))).trans hx191_0; replace hx191_0 := (cell_far (p := ⟨gb190, 3, none⟩) (by first | (rw [add_block]; exact hn191_3) | (show (Addr.add _ _).block ≠ _; rw [add_block]; exact hn191_3) | exact hn191_3) (.int .i64 ((rd_T98 l0_1 x29_2).f3))).trans hx191_0; clear hn191_0; clear hn191_1; clear hn191_2; clear hn191_3; replace p191 := eq_true p191; replace q191 := eq_true q191))
         have n0_ : Aside0 (Kd.R Kd.bool 4 ((((w32.setCell ⟨gb190, 0, none⟩ (.int .i64 ((rd_T98 l0_1 x29_2).f0))).setCell ⟨gb190, 1, none⟩ (.int .i64 ((rd_T98 l0_1 x29_2).f1))).setCell ⟨gb190, 2, none⟩ (.int .i64 ((rd_T98 l0_1 x29_2).f2))).setCell ⟨gb190, 3, none⟩ (.int .i64 ((rd_T98 l0_1 x29_2).f3))) w.heap.size (fun _ => True) (.slice (some ⟨go10, 0, none⟩) x3_2.length co10) x3_2) := ⟨by exact rx (Kd.R_mono (Kd.R_far (p := ⟨gb190, 3, none⟩) (Kd.R_far (p := ⟨gb190, 2, none⟩) (Kd.R_far (p := ⟨gb190, 1, none⟩) (Kd.R_far (p := ⟨gb190, 0, none⟩) (Kd.R_types HO_3.out BK190.out (by decide)) (fun _ hk => hk.2) (.int .i64 ((rd_T98 l0_1 x29_2).f0))) (fun _ hk => hk.2) (.int .i64 ((rd_T98 l0_1 x29_2).f1))) (fun _ hk => hk.2) (.int .i64 ((rd_T98 l0_1 x29_2).f2))) (fun _ hk => hk.2) (.int .i64 ((rd_T98 l0_1 x29_2).f3))) (fun _ hk => trivial))⟩
         have n1_ : Aside0 (((((w32.setCell ⟨gb190, 0, none⟩ (.int .i64 ((rd_T98 l0_1 x29_2).f0))).setCell ⟨gb190, 1, none⟩ (.int .i64 ((rd_T98 l0_1 x29_2).f1))).setCell ⟨gb190, 2, none⟩ (.int .i64 ((rd_T98 l0_1 x29_2).f2))).setCell ⟨gb190, 3, none⟩ (.int .i64 ((rd_T98 l0_1 x29_2).f3))).heap[gb183]? = some (.cells #[.int .i64 a0_0, .slice (some ad187) l0_1.length c0_1] 24 (0, 0))) := ⟨by (with_reducible repeat (first | refine blk_drewN ?_ _ | refine blk_drew ?_ | refine blk_alloc ?_ _)); refine blk_far ?_ NB183_190.out _; (with_reducible repeat (first | refine blk_drewN ?_ _ | refine blk_drew ?_ | refine blk_alloc ?_ _)); refine blk_far ?_ NB183_190.out _; (with_reducible repeat (first | refine blk_drewN ?_ _ | refine blk_drew ?_ | refine blk_alloc ?_ _)); refine blk_far ?_ NB183_190.out _; (with_reducible repeat (first | refine blk_drewN ?_ _ | refine blk_drew ?_ | refine blk_alloc ?_ _)); refine blk_far ?_ NB183_190.out _; exact bx BK183.out⟩
         have n2_ : Aside0 (((((w32.setCell ⟨gb190, 0, none⟩ (.int .i64 ((rd_T98 l0_1 x29_2).f0))).setCell ⟨gb190, 1, none⟩ (.int .i64 ((rd_T98 l0_1 x29_2).f1))).setCell ⟨gb190, 2, none⟩ (.int .i64 ((rd_T98 l0_1 x29_2).f2))).setCell ⟨gb190, 3, none⟩ (.int .i64 ((rd_T98 l0_1 x29_2).f3))).heap[gb190]? = some (.cells #[.int .i64 ((rd_T98 l0_1 x29_2).f0), .int .i64 ((rd_T98 l0_1 x29_2).f1), .int .i64 ((rd_T98 l0_1 x29_2).f2), .int .i64 ((rd_T98 l0_1 x29_2).f3)] 98 (0, 0))) := ⟨by (with_reducible repeat (first | refine blk_drewN ?_ _ | refine blk_drew ?_ | refine blk_alloc ?_ _)); refine blk_put (cs := #[.int .i64 ((rd_T98 l0_1 x29_2).f0), .int .i64 ((rd_T98 l0_1 x29_2).f1), .int .i64 ((rd_T98 l0_1 x29_2).f2), .int .i64 0]) ?_ 3 _ rfl; (with_reducible repeat (first | refine blk_drewN ?_ _ | refine blk_drew ?_ | refine blk_alloc ?_ _)); refine blk_put (cs := #[.int .i64 ((rd_T98 l0_1 x29_2).f0), .int .i64 ((rd_T98 l0_1 x29_2).f1), .int .i64 0, .int .i64 0]) ?_ 2 _ rfl; (with_reducible repeat (first | refine blk_drewN ?_ _ | refine blk_drew ?_ | refine blk_alloc ?_ _)); refine blk_put (cs := #[.int .i64 ((rd_T98 l0_1 x29_2).f0), .int .i64 0, .int .i64 0, .int .i64 0]) ?_ 1 _ rfl; (with_reducible repeat (first | refine blk_drewN ?_ _ | refine blk_drew ?_ | refine blk_alloc ?_ _)); refine blk_put (cs := #[.int .i64 0, .int .i64 0, .int .i64 0, .int .i64 0]) ?_ 0 _ rfl; exact bx BK190.out⟩
         have n3_ : Aside0 (Below w.heap.size w ((((w32.setCell ⟨gb190, 0, none⟩ (.int .i64 ((rd_T98 l0_1 x29_2).f0))).setCell ⟨gb190, 1, none⟩ (.int .i64 ((rd_T98 l0_1 x29_2).f1))).setCell ⟨gb190, 2, none⟩ (.int .i64 ((rd_T98 l0_1 x29_2).f2))).setCell ⟨gb190, 3, none⟩ (.int .i64 ((rd_T98 l0_1 x29_2).f3)))) := ⟨lb⟩
         (try clear HO_3)
         (try clear BK183)
         (try clear BK190)
         (try clear HB)
         generalize ((((w32.setCell ⟨gb190, 0, none⟩ (.int .i64 ((rd_T98 l0_1 x29_2).f0))).setCell ⟨gb190, 1, none⟩ (.int .i64 ((rd_T98 l0_1 x29_2).f1))).setCell ⟨gb190, 2, none⟩ (.int .i64 ((rd_T98 l0_1 x29_2).f2))).setCell ⟨gb190, 3, none⟩ (.int .i64 ((rd_T98 l0_1 x29_2).f3))) = w35 at n0_ n1_ n2_ n3_ ⊢
         have HO_3 := n0_
         have BK183 := n1_
         have BK190 := n2_
         have HB := n3_
         clear n0_ n1_ n2_ n3_
         have n0_ := ak (Kd.R_drew HO_3.out)
         have n1_ := ak (blk_drew BK183.out)
         have n2_ := ak (blk_drew BK190.out)
         have n3_ := ak (below_drew1 HB.out)
         clear HO_3
         clear BK183
         clear BK190
         clear HB
         have HO_3 := n0_
         have BK183 := n1_
         have BK190 := n2_
         have HB := n3_
         clear n0_ n1_ n2_ n3_
         have p28 : 0 ≤ (((rd_T98 l0_1 x29_2).f0) : Int) := oda
         have q28 : (((rd_T98 l0_1 x29_2).f0) : Int) < ((x3_2.length : Int) : Int) := oda
         obtain ⟨hx28_0, hf28_0⟩ := Kd.R_celln false HO_3.out (((rd_T98 l0_1 x29_2).f0) : Int) p28 q28
         replace p28 := eq_true p28
         replace q28 := eq_true q28
         have HP37 := Kd.R_putn HO_3.out (((rd_T98 l0_1 x29_2).f0) : Int) true
         rw [← Ny192.out] at HP37
         have HQ37 := ak HP37
         clear HP37
         have p31 : 0 ≤ (((rd_T98 l0_1 x29_2).f1) : Int) := oda
         have q31 : (((rd_T98 l0_1 x29_2).f1) : Int) < ((x3_2.length : Int) : Int) := oda
         obtain ⟨hx31_0, hf31_0⟩ := Kd.R_celln false HQ37.out (((rd_T98 l0_1 x29_2).f1) : Int) p31 q31
         replace p31 := eq_true p31
         replace q31 := eq_true q31
         have HP38 := Kd.R_putn HQ37.out (((rd_T98 l0_1 x29_2).f1) : Int) true
         rw [← Ny193.out] at HP38
         have HQ38 := ak HP38
         clear HP38
         refine start_ (n := 10) (S := fun w' => w'.cell? ⟨gb190, 0, none⟩ = some (.int .i64 ((rd_T98 l0_1 x29_2).f0)) ∧ w'.cell? ⟨gb190, 1, none⟩ = some (.int .i64 ((rd_T98 l0_1 x29_2).f1)) ∧ w'.cell? ⟨gb190, 2, none⟩ = some (.int .i64 ((rd_T98 l0_1 x29_2).f2)) ∧ w'.cell? ⟨gb190, 3, none⟩ = some (.int .i64 ((rd_T98 l0_1 x29_2).f3))) (ds := [9]) #[false, false, false, false, false, false, false, false, false, false] (by kernel_rfl) rfl rfl ⟨(blk_cell BK190.out 0).trans rfl, (blk_cell BK190.out 1).trans rfl, (blk_cell BK190.out 2).trans rfl, (blk_cell BK190.out 3).trans rfl⟩ (fun hHeld => ?_); refine with_tabW proof_together.tab11 proof_together.bits11 (fun HT_ HW_ => ?_)
         generalize w35.drew = w36 at HO_3 BK183 BK190 HB HQ37 HQ38 hf28_0 hf31_0 hx28_0 hx31_0 hHeld ⊢
         refine pure_ (i := 0) (N := some 45) (v := ?_) (a' := ?_) #[true, false, false, false, false, false, false, false, false, false] rfl rfl (any_of HT_.out (by kernel_rfl)) (fun _ _ _ h => h) (Or.inl ⟨by rfl, ?_⟩) ?_ ?_; rotate_left; intro w'; go_simp; with_reducible rfl; rotate_left; simp only [Act.put, List.setIfInBounds_toArray, List.set_cons_zero, List.set_cons_succ, i64_w, i32_w]; rfl
         refine pure_ (i := 1) (N := some 46) (v := ?_) (a' := ?_) #[true, true, false, false, false, false, false, false, false, false] rfl rfl (any_of HT_.out (by kernel_rfl)) (fun _ _ _ h => h) (Or.inl ⟨by rfl, ?_⟩) ?_ ?_; rotate_left; intro w'; go_simp; with_reducible rfl; rotate_left; simp only [Act.put, List.setIfInBounds_toArray, List.set_cons_zero, List.set_cons_succ, i64_w, i32_w]; rfl
         refine pure_ (i := 3) (N := some 48) (v := ?_) (a' := ?_) #[true, true, false, true, false, false, false, false, false, false] rfl rfl (any_of HT_.out (by kernel_rfl)) (fun _ _ _ h => h) (Or.inl ⟨by rfl, ?_⟩) ?_ ?_; rotate_left; intro w'; go_simp; with_reducible rfl; rotate_left; simp only [Act.put, List.setIfInBounds_toArray, List.set_cons_zero, List.set_cons_succ, i64_w, i32_w]; rfl
         refine pure_ (i := 4) (N := some 49) (v := ?_) (a' := ?_) #[true, true, false, true, true, false, false, false, false, false] rfl rfl (any_of HT_.out (by kernel_rfl)) (fun _ _ _ h => h) (Or.inl ⟨by rfl, ?_⟩) ?_ ?_; rotate_left; intro w'; go_simp; with_reducible rfl; rotate_left; simp only [Act.put, List.setIfInBounds_toArray, List.set_cons_zero, List.set_cons_succ, i64_w, i32_w]; rfl
         refine take_ (i := 2) (N := some 47) (v := ?_) (a' := ?_) #[true, true, true, true, true, false, false, false, false, false] rfl rfl (take_ofW HT_.out HW_.out (by kernel_rfl)) (fun _ _ _ h => h) (Or.inl ⟨by rfl, ?_⟩) hHeld ?_ ?_; rotate_left; rintro w' ⟨s0, s1, s2, s3⟩; go_simp; with_reducible rfl; rotate_left; simp only [Act.put, List.setIfInBounds_toArray, List.set_cons_zero, List.set_cons_succ, i64_w, i32_w]; rfl
         refine pure_ (i := 6) (N := some 51) (v := ?_) (a' := ?_) #[true, true, true, true, true, false, true, false, false, false] rfl rfl (any_of HT_.out (by kernel_rfl)) (fun _ _ _ h => h) (Or.inl ⟨by rfl, ?_⟩) ?_ ?_; rotate_left; intro w'; go_simp; with_reducible rfl; rotate_left; simp only [Act.put, List.setIfInBounds_toArray, List.set_cons_zero, List.set_cons_succ, i64_w, i32_w]; rfl
         refine take_ (i := 5) (N := some 50) (v := ?_) (a' := ?_) #[true, true, true, true, true, true, true, false, false, false] rfl rfl (take_ofW HT_.out HW_.out (by kernel_rfl)) (fun _ _ _ h => h) (Or.inl ⟨by rfl, ?_⟩) hHeld ?_ ?_; rotate_left; rintro w' ⟨s0, s1, s2, s3⟩; go_simp; with_reducible rfl; rotate_left; simp only [Act.put, List.setIfInBounds_toArray, List.set_cons_zero, List.set_cons_succ, i64_w, i32_w]; rfl
         refine one_ (i := 7) (N := none) #[true, true, true, true, true, true, true, true, false, false] rfl rfl (one_of HT_.out (by kernel_rfl)) (by decide) (fun K hK => ?_)
         refine skip_ (w1 := ?_) (by rfl) rfl ?_ ?_
         rotate_left
         ·
          go_simp
          rfl
         refine hK.out _ _ ⟨((cell_far (p := ⟨go10, _, none⟩) (fun e_ => Kd.own_blk (Kd.R_ne HO_3.out BK190.out (by decide)) e_.symm) _).trans (hHeld.1)), ((cell_far (p := ⟨go10, _, none⟩) (fun e_ => Kd.own_blk (Kd.R_ne HO_3.out BK190.out (by decide)) e_.symm) _).trans (hHeld.2.1)), ((cell_far (p := ⟨go10, _, none⟩) (fun e_ => Kd.own_blk (Kd.R_ne HO_3.out BK190.out (by decide)) e_.symm) _).trans (hHeld.2.2.1)), ((cell_far (p := ⟨go10, _, none⟩) (fun e_ => Kd.own_blk (Kd.R_ne HO_3.out BK190.out (by decide)) e_.symm) _).trans (hHeld.2.2.2))⟩ (fun hHeld => ?_)
         clear hK K
         refine pure_ (i := 8) (N := some 52) (v := ?_) (a' := ?_) #[true, true, true, true, true, true, true, true, true, false] rfl rfl (any_of HT_.out (by kernel_rfl)) (fun _ _ _ h => h) (Or.inl ⟨by rfl, ?_⟩) ?_ ?_; rotate_left; intro w'; go_simp; with_reducible rfl; rotate_left; simp only [Act.put, List.setIfInBounds_toArray, List.set_cons_zero, List.set_cons_succ, i64_w, i32_w]; rfl
         refine last_ (i := 9) (N := none) #[true, true, true, true, true, true, true, true, true, true] rfl rfl (one_of HT_.out (by kernel_rfl)) (by decide) (fun K hK => ?_)
         refine skip_ (w1 := ?_) (by rfl) rfl ?_ ?_
         rotate_left
         ·
          go_simp
          rfl
         refine hK.out _ _ ?_
         clear hK K
         refine done_ (done_of HT_.out (by kernel_rfl)) ?_
         try go_wp2
         (try simp only [← hl3_2])
         go_roundg k2
         case measure => have := HK1.out; have := HK2.out; omega
         case rel => exact ⟨(y193), (wrap64 (x29_2 + 1)), (by first | rfl | (simp [*]; done)), H', ⟨by have := HK1.out; have := HK2.out; omega⟩, ⟨by (try simp only [hl3_1]); (try simp only [hl3_2]); (with_reducible repeat (first | apply Kd.R_alloc | apply Kd.R_drewN | apply Kd.R_drew)); exact HQ38.out⟩, ⟨by (try simp only [hl3_1]); (try simp only [hl3_2]); (with_reducible repeat (first | refine blk_drewN ?_ _ | refine blk_drew ?_ | refine blk_alloc ?_ _)); refine blk_far ?_ (by have h_ := Kd.R_ne HO_3.out BK183.out (by decide); intro e_; exact h_ (by rw [e_]; rfl)) _; (with_reducible repeat (first | refine blk_drewN ?_ _ | refine blk_drew ?_ | refine blk_alloc ?_ _)); refine blk_far ?_ (by have h_ := Kd.R_ne HO_3.out BK183.out (by decide); intro e_; exact h_ (by rw [e_]; rfl)) _; exact bx BK183.out⟩, ⟨by repeat (first | (with_reducible first | exact HB.out | apply below_alloc | apply pw_below_drewN | apply below_drew1 | refine below_set ?_ GB10.out | refine below_set ?_ GB10.out | refine below_set ?_ GE183.out | refine below_set ?_ GE190.out) | exact HB.out)⟩⟩
        ·
         replace c27 := Bool.eq_false_iff.mpr c27
         subst c27
         have H1 : (if 0 ≤ ((rd_T98 l0_1 x29_2).f1) then (if ((rd_T98 l0_1 x29_2).f1) < (x3_2.length : Int) then (if rdOf false x3_2 ((rd_T98 l0_1 x29_2).f1) = true then (proof_together.l1 k2 ((x3_2.set (((rd_T98 l0_1 x29_2).f0) : Int).toNat true).set (((rd_T98 l0_1 x29_2).f1) : Int).toNat true) a0_0 x24_1 l0_1 (l0_1.length : Int) (wrap64 (x29_2 + 1)) a0_0 l0_1) else (proof_together.l1 k2 x3_2 a0_0 x24_1 l0_1 (l0_1.length : Int) (wrap64 (x29_2 + 1)) a0_0 l0_1)) else (none)) else (none)) = some r := by rw [if_neg (show ¬ (false = true) by decide)] at H; exact H
         clear H
         have H := H1
         clear H1
         by_cases c39 : 0 ≤ ((rd_T98 l0_1 x29_2).f1)
         rotate_left
         ·
          rw [if_neg c39] at H
          exact absurd H (by simp)
         rw [if_pos c39] at H
         have c39b0 : decide (0 ≤ ((rd_T98 l0_1 x29_2).f1)) = true := decide_eq_true c39
         clear c39
         by_cases c40 : ((rd_T98 l0_1 x29_2).f1) < (x3_2.length : Int)
         rotate_left
         ·
          rw [if_neg c40] at H
          exact absurd H (by simp)
         rw [if_pos c40] at H
         have c40b0 : decide (((rd_T98 l0_1 x29_2).f1) < (x3_2.length : Int)) = true := decide_eq_true c40
         clear c40
         obtain ⟨bq41, hbq41⟩ : ∃ b_ : Bool, b_ = (rdOf false x3_2 ((rd_T98 l0_1 x29_2).f1)) := ⟨_, rfl⟩
         replace H : (if bq41 = true then (proof_together.l1 k2 ((x3_2.set (((rd_T98 l0_1 x29_2).f0) : Int).toNat true).set (((rd_T98 l0_1 x29_2).f1) : Int).toNat true) a0_0 x24_1 l0_1 (l0_1.length : Int) (wrap64 (x29_2 + 1)) a0_0 l0_1) else (proof_together.l1 k2 x3_2 a0_0 x24_1 l0_1 (l0_1.length : Int) (wrap64 (x29_2 + 1)) a0_0 l0_1)) = some r := by rw [← hbq41] at H; exact H
         have Nbq41 := ak hbq41
         clear hbq41
         by_cases c42 : bq41 = true
         ·
          subst c42
          have H1 : (proof_together.l1 k2 ((x3_2.set (((rd_T98 l0_1 x29_2).f0) : Int).toNat true).set (((rd_T98 l0_1 x29_2).f1) : Int).toNat true) a0_0 x24_1 l0_1 (l0_1.length : Int) (wrap64 (x29_2 + 1)) a0_0 l0_1) = some r := by rw [if_pos rfl] at H; exact H
          clear H
          have H := H1
          clear H1
          obtain ⟨y195, hy195⟩ : ∃ y_ : List Bool, y_ = (x3_2.set (((rd_T98 l0_1 x29_2).f0) : Int).toNat true) := ⟨_, rfl⟩
          replace H : (proof_together.l1 k2 (y195.set (((rd_T98 l0_1 x29_2).f1) : Int).toNat true) a0_0 x24_1 l0_1 (l0_1.length : Int) (wrap64 (x29_2 + 1)) a0_0 l0_1) = some r := by first | (rw [hy195]; exact H) | exact H
          have Ny195 := ak hy195
          clear hy195
          obtain ⟨y196, hy196⟩ : ∃ y_ : List Bool, y_ = (y195.set (((rd_T98 l0_1 x29_2).f1) : Int).toNat true) := ⟨_, rfl⟩
          replace H : (proof_together.l1 k2 y196 a0_0 x24_1 l0_1 (l0_1.length : Int) (wrap64 (x29_2 + 1)) a0_0 l0_1) = some r := by first | (rw [hy196]; exact H) | exact H
          have Ny196 := ak hy196
          clear hy196
          have H' := ak H
          clear H
          have p189 : 0 ≤ (x29_2 : Int) := oda
          have q189 : x29_2 < (l0_1.length : Int) := oda
          obtain ⟨ad189, e189, hx189_0, hx189_1, hx189_2, hx189_3⟩ := at_T98 HR0_1.out x29_2 p189 q189
          obtain rfl : ad187 = ad189 := (by injection e189)
          (try replace hx189_0 := (HB.out.cell (World.block_lt_of_cell? w _ hx189_0)).trans hx189_0)
          (try replace hx189_1 := (HB.out.cell (World.block_lt_of_cell? w _ hx189_1)).trans hx189_1)
          (try replace hx189_2 := (HB.out.cell (World.block_lt_of_cell? w _ hx189_2)).trans hx189_2)
          (try replace hx189_3 := (HB.out.cell (World.block_lt_of_cell? w _ hx189_3)).trans hx189_3)
          replace p189 := eq_true p189
          replace q189 := eq_true q189
          try go_wp2_with (first | ((with_reducible refine gate_dst (N := 5) rfl ?_); refine box_event ?hg (N := 5) ?hd (cs := #[.int .i64 0, .int .i64 0, .int .i64 0, .int .i64 0]) (t := 98) ?hr ?_; (case hd => rfl); (case hg => rfl); (case hr => first | (go_simp; done) | (go_simp; rfl)); intro gb190 hg w45 hbox hb; have n0_ := ak (Kd.R_below (rx HO_3.out) hb); have n1_ := ak (blk_below (bx BK183.out) hb); have n2_ := ak (below_step lb hb); have n3_ := ak (hbox); have n4_ := ak ((by rw [hg]; exact (below_size lb) : w.heap.size ≤ gb190)); have n5_ := ak ((by rw [hg]; exact (below_size lb) : w.heap.size ≤ gb190)); have n6_ := ak ((by rw [hg]; exact Nat.ne_of_lt (blk_lt (g := gb183) (o := .cells #[.int .i64 a0_0, .slice (some ad187) l0_1.length c0_1] 24 (0, 0)) (bx BK183.out)) : gb183 ≠ gb190)); have n7_ := ak ((by rw [hg]; exact Nat.ne_of_gt (blk_lt (g := gb183) (o := .cells #[.int .i64 a0_0, .slice (some ad187) l0_1.length c0_1] 24 (0, 0)) (bx BK183.out)) : gb190 ≠ gb183)); clear HO_3; clear BK183; clear HB; have HO_3 := n0_; have BK183 := n1_; have HB := n2_; have BK190 := n3_; have GW190 := n4_; have GE190 := n5_; have NB183_190 := n6_; have NB190_183 := n7_; clear n0_ n1_ n2_ n3_ n4_ n5_ n6_ n7_; clear hb hbox hg; have hnb46 := NB190_183.out; have hnc46 := NB183_190.out; have hcz47_0 : w45.cell? ⟨gb190, 0, none⟩ = some (.int .i64 0) := (blk_cell BK190.out 0).trans rfl; have hcz47_1 : w45.cell? ⟨gb190, 1, none⟩ = some (.int .i64 0) := (blk_cell BK190.out 1).trans rfl; have hcz47_2 : w45.cell? ⟨gb190, 2, none⟩ = some (.int .i64 0) := (blk_cell BK190.out 2).trans rfl; have hcz47_3 : w45.cell? ⟨gb190, 3, none⟩ = some (.int .i64 0) := (blk_cell BK190.out 3).trans rfl; have hfz47_0 := blk_frozen BK190.out 0; have hfz47_1 := blk_frozen BK190.out 1; have hfz47_2 := blk_frozen BK190.out 2; have hfz47_3 := blk_frozen BK190.out 3; have p191 : 0 ≤ (((rd_T98 l0_1 x29_2).f0) : Int) := oda; have q191 : ((rd_T98 l0_1 x29_2).f0) < (x3_2.length : Int) := oda; obtain ⟨ad191, e191, hx191_0⟩ := Kd.at_bool (Kd.R_reads' HO_3.out).2.2 ((rd_T98 l0_1 x29_2).f0) p191 q191; (try rw [← Nbq26.out] at hx191_0); (try rw [← Nbq41.out] at hx191_0); obtain rfl : (⟨go10, 0, none⟩ : Addr) = ad191 := (by injection e191); (first | simp only [add_plain] at hx191_0 | simp only [add_at] at hx191_0 | simp only [Addr.add, Nat.zero_add] at hx191_0 | skip); have hn191_0 : (⟨go10, 0, none⟩ : Addr).block ≠ gb190 := Kd.own_blk (Kd.R_ne HO_3.out BK190.out (by decide)); have hn191_1 : (⟨go10, 0, none⟩ : Addr).block ≠ gb190 := Kd.own_blk (Kd.R_ne HO_3.out BK190.out (by decide)); have hn191_2 : (⟨go10, 0, none⟩ : Addr).block ≠ gb190 := Kd.own_blk (Kd.R_ne HO_3.out BK190.out (by decide)); have hn191_3 : (⟨go10, 0, none⟩ : Addr).block ≠ gb190 := Kd.own_blk (Kd.R_ne HO_3.out BK190.out (by decide)); replace hx191_0 := (cell_far (p := ⟨gb190, 0, none⟩) (by first | (rw [add_block]; exact hn191_0) | (show (Addr.add _ _).block ≠ _; rw [add_block]; exact hn191_0) | exact hn191_0) (.int .i64 ((rd_T98 l0_1 x29_2).f0))).trans hx191_0; replace hx191_0 := (cell_far (p := ⟨gb190, 1, none⟩) (by first | (rw [add_block]; exact hn191_1) | (show (Addr.add _ _).block ≠ _; rw [add_block]; exact hn191_1) | exact hn191_1) (.int .i64 ((rd_T98 l0_1 x29_2).f1))).trans hx191_0; replace hx191_0 := (cell_far (p := ⟨gb190, 2, none⟩) (by first | (rw [add_block]; exact hn191_2) | (show (Addr.add _ _).block ≠ _; rw [add_block]; exact hn191_2) | exact hn191_2) (.int .i64 ((rd_T98 l0_1 x29_2).f2))).trans hx191_0; replace hx191_0 := (cell_far (p := ⟨gb190, 3, none⟩) (by first | (rw [add_block]; exact hn191_3) | (show (Addr.add _ _).block ≠ _; rw [add_block]; exact hn191_3) | exact hn191_3) (.int .i64 ((rd_T98 l0_1 x29_2).f3))).trans hx191_0; clear hn191_0; clear hn191_1; clear hn191_2; clear hn191_3; replace p191 := eq_true p191; replace q191 := eq_true q191; have p194 : 0 ≤ (((rd_T98 l0_1 x29_2).f1) : Int) := oda; have q194 : ((rd_T98 l0_1 x29_2).f1) < (x3_2.length : Int) := oda; obtain ⟨ad194, e194, hx194_0⟩ := Kd.at_bool (Kd.R_reads' HO_3.out).2.2 ((rd_T98 l0_1 x29_2).f1) p194 q194; (try rw [← Nbq26.out] at hx194_0); (try rw [← Nbq41.out] at hx194_0); obtain rfl : (⟨go10, 0, none⟩ : Addr) = ad194 := (by injection e194); (first | simp only [add_plain] at hx194_0 | simp only [add_at] at hx194_0 | simp only [Addr.add, Nat.zero_add] at hx194_0 | skip); have hn194_0 : (⟨go10, 0, none⟩ : Addr).block ≠ gb190 := Kd.own_blk (Kd.R_ne HO_3.out BK190.out (by decide)); have hn194_1 : (⟨go10, 0, none⟩ : Addr).block ≠ gb190 := Kd.own_blk (Kd.R_ne HO_3.out BK190.out (by decide)); have hn194_2 : (⟨go10, 0, none⟩ : Addr).block ≠ gb190 := Kd.own_blk (Kd.R_ne HO_3.out BK190.out (by decide)); have hn194_3 : (⟨go10, 0, none⟩ : Addr).block ≠ gb190 := Kd.own_blk (Kd.R_ne HO_3.out BK190.out (by decide)); replace hx194_0 := (cell_far (p := ⟨gb190, 0, none⟩) (by first | (rw [add_block]; exact hn194_0) | (show (Addr.add _ _).block ≠ _; rw [add_block]; exact hn194_0) | exact hn194_0) (.int .i64 ((rd_T98 l0_1 x29_2).f0))).trans hx194_0; replace hx194_0 := (cell_far (p := ⟨gb190, 1, none⟩) (by first | (rw [add_block]; exact hn194_1) | (show (Addr.add _ _).block ≠ _; rw [add_block]; exact hn194_1) | exact hn194_1) (.int .i64 ((rd_T98 l0_1 x29_2).f1))).trans hx194_0; replace hx194_0 := (cell_far (p := ⟨gb190, 2, none⟩) (by first | (rw [add_block]; exact hn194_2) | (show (Addr.add _ _).block ≠ _; rw [add_block]; exact hn194_2) | exact hn194_2) (.int .i64 ((rd_T98 l0_1 x29_2).f2))).trans hx194_0; replace hx194_0 := (cell_far (p := ⟨gb190, 3, none⟩) (by first | (rw [add_block]; exact hn194_3) | (show (Addr.add _ _).block ≠ _; rw [add_block]; exact hn194_3) | exact hn194_3) (.int .i64 ((rd_T98 l0_1 x29_2).f3))).trans hx194_0; clear hn194_0; clear hn194_1; clear hn194_2; clear hn194_3; replace p194 := eq_true p194; replace q194 := eq_true q194))
          have n0_ : Aside0 (Kd.R Kd.bool 4 ((((w45.setCell ⟨gb190, 0, none⟩ (.int .i64 ((rd_T98 l0_1 x29_2).f0))).setCell ⟨gb190, 1, none⟩ (.int .i64 ((rd_T98 l0_1 x29_2).f1))).setCell ⟨gb190, 2, none⟩ (.int .i64 ((rd_T98 l0_1 x29_2).f2))).setCell ⟨gb190, 3, none⟩ (.int .i64 ((rd_T98 l0_1 x29_2).f3))) w.heap.size (fun _ => True) (.slice (some ⟨go10, 0, none⟩) x3_2.length co10) x3_2) := ⟨by exact rx (Kd.R_mono (Kd.R_far (p := ⟨gb190, 3, none⟩) (Kd.R_far (p := ⟨gb190, 2, none⟩) (Kd.R_far (p := ⟨gb190, 1, none⟩) (Kd.R_far (p := ⟨gb190, 0, none⟩) (Kd.R_types HO_3.out BK190.out (by decide)) (fun _ hk => hk.2) (.int .i64 ((rd_T98 l0_1 x29_2).f0))) (fun _ hk => hk.2) (.int .i64 ((rd_T98 l0_1 x29_2).f1))) (fun _ hk => hk.2) (.int .i64 ((rd_T98 l0_1 x29_2).f2))) (fun _ hk => hk.2) (.int .i64 ((rd_T98 l0_1 x29_2).f3))) (fun _ hk => trivial))⟩
          have n1_ : Aside0 (((((w45.setCell ⟨gb190, 0, none⟩ (.int .i64 ((rd_T98 l0_1 x29_2).f0))).setCell ⟨gb190, 1, none⟩ (.int .i64 ((rd_T98 l0_1 x29_2).f1))).setCell ⟨gb190, 2, none⟩ (.int .i64 ((rd_T98 l0_1 x29_2).f2))).setCell ⟨gb190, 3, none⟩ (.int .i64 ((rd_T98 l0_1 x29_2).f3))).heap[gb183]? = some (.cells #[.int .i64 a0_0, .slice (some ad187) l0_1.length c0_1] 24 (0, 0))) := ⟨by (with_reducible repeat (first | refine blk_drewN ?_ _ | refine blk_drew ?_ | refine blk_alloc ?_ _)); refine blk_far ?_ NB183_190.out _; (with_reducible repeat (first | refine blk_drewN ?_ _ | refine blk_drew ?_ | refine blk_alloc ?_ _)); refine blk_far ?_ NB183_190.out _; (with_reducible repeat (first | refine blk_drewN ?_ _ | refine blk_drew ?_ | refine blk_alloc ?_ _)); refine blk_far ?_ NB183_190.out _; (with_reducible repeat (first | refine blk_drewN ?_ _ | refine blk_drew ?_ | refine blk_alloc ?_ _)); refine blk_far ?_ NB183_190.out _; exact bx BK183.out⟩
          have n2_ : Aside0 (((((w45.setCell ⟨gb190, 0, none⟩ (.int .i64 ((rd_T98 l0_1 x29_2).f0))).setCell ⟨gb190, 1, none⟩ (.int .i64 ((rd_T98 l0_1 x29_2).f1))).setCell ⟨gb190, 2, none⟩ (.int .i64 ((rd_T98 l0_1 x29_2).f2))).setCell ⟨gb190, 3, none⟩ (.int .i64 ((rd_T98 l0_1 x29_2).f3))).heap[gb190]? = some (.cells #[.int .i64 ((rd_T98 l0_1 x29_2).f0), .int .i64 ((rd_T98 l0_1 x29_2).f1), .int .i64 ((rd_T98 l0_1 x29_2).f2), .int .i64 ((rd_T98 l0_1 x29_2).f3)] 98 (0, 0))) := ⟨by (with_reducible repeat (first | refine blk_drewN ?_ _ | refine blk_drew ?_ | refine blk_alloc ?_ _)); refine blk_put (cs := #[.int .i64 ((rd_T98 l0_1 x29_2).f0), .int .i64 ((rd_T98 l0_1 x29_2).f1), .int .i64 ((rd_T98 l0_1 x29_2).f2), .int .i64 0]) ?_ 3 _ rfl; (with_reducible repeat (first | refine blk_drewN ?_ _ | refine blk_drew ?_ | refine blk_alloc ?_ _)); refine blk_put (cs := #[.int .i64 ((rd_T98 l0_1 x29_2).f0), .int .i64 ((rd_T98 l0_1 x29_2).f1), .int .i64 0, .int .i64 0]) ?_ 2 _ rfl; (with_reducible repeat (first | refine blk_drewN ?_ _ | refine blk_drew ?_ | refine blk_alloc ?_ _)); refine blk_put (cs := #[.int .i64 ((rd_T98 l0_1 x29_2).f0), .int .i64 0, .int .i64 0, .int .i64 0]) ?_ 1 _ rfl; (with_reducible repeat (first | refine blk_drewN ?_ _ | refine blk_drew ?_ | refine blk_alloc ?_ _)); refine blk_put (cs := #[.int .i64 0, .int .i64 0, .int .i64 0, .int .i64 0]) ?_ 0 _ rfl; exact bx BK190.out⟩
          have n3_ : Aside0 (Below w.heap.size w ((((w45.setCell ⟨gb190, 0, none⟩ (.int .i64 ((rd_T98 l0_1 x29_2).f0))).setCell ⟨gb190, 1, none⟩ (.int .i64 ((rd_T98 l0_1 x29_2).f1))).setCell ⟨gb190, 2, none⟩ (.int .i64 ((rd_T98 l0_1 x29_2).f2))).setCell ⟨gb190, 3, none⟩ (.int .i64 ((rd_T98 l0_1 x29_2).f3)))) := ⟨lb⟩
          (try clear HO_3)
          (try clear BK183)
          (try clear BK190)
          (try clear HB)
          generalize ((((w45.setCell ⟨gb190, 0, none⟩ (.int .i64 ((rd_T98 l0_1 x29_2).f0))).setCell ⟨gb190, 1, none⟩ (.int .i64 ((rd_T98 l0_1 x29_2).f1))).setCell ⟨gb190, 2, none⟩ (.int .i64 ((rd_T98 l0_1 x29_2).f2))).setCell ⟨gb190, 3, none⟩ (.int .i64 ((rd_T98 l0_1 x29_2).f3))) = w48 at n0_ n1_ n2_ n3_ ⊢
          have HO_3 := n0_
          have BK183 := n1_
          have BK190 := n2_
          have HB := n3_
          clear n0_ n1_ n2_ n3_
          have n0_ := ak (Kd.R_drew HO_3.out)
          have n1_ := ak (blk_drew BK183.out)
          have n2_ := ak (blk_drew BK190.out)
          have n3_ := ak (below_drew1 HB.out)
          clear HO_3
          clear BK183
          clear BK190
          clear HB
          have HO_3 := n0_
          have BK183 := n1_
          have BK190 := n2_
          have HB := n3_
          clear n0_ n1_ n2_ n3_
          have p43 : 0 ≤ (((rd_T98 l0_1 x29_2).f0) : Int) := oda
          have q43 : (((rd_T98 l0_1 x29_2).f0) : Int) < ((x3_2.length : Int) : Int) := oda
          obtain ⟨hx43_0, hf43_0⟩ := Kd.R_celln false HO_3.out (((rd_T98 l0_1 x29_2).f0) : Int) p43 q43
          replace p43 := eq_true p43
          replace q43 := eq_true q43
          have HP50 := Kd.R_putn HO_3.out (((rd_T98 l0_1 x29_2).f0) : Int) true
          rw [← Ny195.out] at HP50
          have HQ50 := ak HP50
          clear HP50
          have p44 : 0 ≤ (((rd_T98 l0_1 x29_2).f1) : Int) := oda
          have q44 : (((rd_T98 l0_1 x29_2).f1) : Int) < ((x3_2.length : Int) : Int) := oda
          obtain ⟨hx44_0, hf44_0⟩ := Kd.R_celln false HQ50.out (((rd_T98 l0_1 x29_2).f1) : Int) p44 q44
          replace p44 := eq_true p44
          replace q44 := eq_true q44
          have HP51 := Kd.R_putn HQ50.out (((rd_T98 l0_1 x29_2).f1) : Int) true
          rw [← Ny196.out] at HP51
          have HQ51 := ak HP51
          clear HP51
          refine start_ (n := 10) (S := fun w' => w'.cell? ⟨gb190, 0, none⟩ = some (.int .i64 ((rd_T98 l0_1 x29_2).f0)) ∧ w'.cell? ⟨gb190, 1, none⟩ = some (.int .i64 ((rd_T98 l0_1 x29_2).f1)) ∧ w'.cell? ⟨gb190, 2, none⟩ = some (.int .i64 ((rd_T98 l0_1 x29_2).f2)) ∧ w'.cell? ⟨gb190, 3, none⟩ = some (.int .i64 ((rd_T98 l0_1 x29_2).f3))) (ds := [9]) #[false, false, false, false, false, false, false, false, false, false] (by kernel_rfl) rfl rfl ⟨(blk_cell BK190.out 0).trans rfl, (blk_cell BK190.out 1).trans rfl, (blk_cell BK190.out 2).trans rfl, (blk_cell BK190.out 3).trans rfl⟩ (fun hHeld => ?_); refine with_tabW proof_together.tab11 proof_together.bits11 (fun HT_ HW_ => ?_)
          generalize w48.drew = w49 at HO_3 BK183 BK190 HB HQ50 HQ51 hf43_0 hf44_0 hx43_0 hx44_0 hHeld ⊢
          refine pure_ (i := 0) (N := some 45) (v := ?_) (a' := ?_) #[true, false, false, false, false, false, false, false, false, false] rfl rfl (any_of HT_.out (by kernel_rfl)) (fun _ _ _ h => h) (Or.inl ⟨by rfl, ?_⟩) ?_ ?_; rotate_left; intro w'; go_simp; with_reducible rfl; rotate_left; simp only [Act.put, List.setIfInBounds_toArray, List.set_cons_zero, List.set_cons_succ, i64_w, i32_w]; rfl
          refine pure_ (i := 1) (N := some 46) (v := ?_) (a' := ?_) #[true, true, false, false, false, false, false, false, false, false] rfl rfl (any_of HT_.out (by kernel_rfl)) (fun _ _ _ h => h) (Or.inl ⟨by rfl, ?_⟩) ?_ ?_; rotate_left; intro w'; go_simp; with_reducible rfl; rotate_left; simp only [Act.put, List.setIfInBounds_toArray, List.set_cons_zero, List.set_cons_succ, i64_w, i32_w]; rfl
          refine pure_ (i := 3) (N := some 48) (v := ?_) (a' := ?_) #[true, true, false, true, false, false, false, false, false, false] rfl rfl (any_of HT_.out (by kernel_rfl)) (fun _ _ _ h => h) (Or.inl ⟨by rfl, ?_⟩) ?_ ?_; rotate_left; intro w'; go_simp; with_reducible rfl; rotate_left; simp only [Act.put, List.setIfInBounds_toArray, List.set_cons_zero, List.set_cons_succ, i64_w, i32_w]; rfl
          refine pure_ (i := 4) (N := some 49) (v := ?_) (a' := ?_) #[true, true, false, true, true, false, false, false, false, false] rfl rfl (any_of HT_.out (by kernel_rfl)) (fun _ _ _ h => h) (Or.inl ⟨by rfl, ?_⟩) ?_ ?_; rotate_left; intro w'; go_simp; with_reducible rfl; rotate_left; simp only [Act.put, List.setIfInBounds_toArray, List.set_cons_zero, List.set_cons_succ, i64_w, i32_w]; rfl
          refine take_ (i := 2) (N := some 47) (v := ?_) (a' := ?_) #[true, true, true, true, true, false, false, false, false, false] rfl rfl (take_ofW HT_.out HW_.out (by kernel_rfl)) (fun _ _ _ h => h) (Or.inl ⟨by rfl, ?_⟩) hHeld ?_ ?_; rotate_left; rintro w' ⟨s0, s1, s2, s3⟩; go_simp; with_reducible rfl; rotate_left; simp only [Act.put, List.setIfInBounds_toArray, List.set_cons_zero, List.set_cons_succ, i64_w, i32_w]; rfl
          refine pure_ (i := 6) (N := some 51) (v := ?_) (a' := ?_) #[true, true, true, true, true, false, true, false, false, false] rfl rfl (any_of HT_.out (by kernel_rfl)) (fun _ _ _ h => h) (Or.inl ⟨by rfl, ?_⟩) ?_ ?_; rotate_left; intro w'; go_simp; with_reducible rfl; rotate_left; simp only [Act.put, List.setIfInBounds_toArray, List.set_cons_zero, List.set_cons_succ, i64_w, i32_w]; rfl
          refine take_ (i := 5) (N := some 50) (v := ?_) (a' := ?_) #[true, true, true, true, true, true, true, false, false, false] rfl rfl (take_ofW HT_.out HW_.out (by kernel_rfl)) (fun _ _ _ h => h) (Or.inl ⟨by rfl, ?_⟩) hHeld ?_ ?_; rotate_left; rintro w' ⟨s0, s1, s2, s3⟩; go_simp; with_reducible rfl; rotate_left; simp only [Act.put, List.setIfInBounds_toArray, List.set_cons_zero, List.set_cons_succ, i64_w, i32_w]; rfl
          refine one_ (i := 7) (N := none) #[true, true, true, true, true, true, true, true, false, false] rfl rfl (one_of HT_.out (by kernel_rfl)) (by decide) (fun K hK => ?_)
          refine skip_ (w1 := ?_) (by rfl) rfl ?_ ?_
          rotate_left
          ·
           go_simp
           rfl
          refine hK.out _ _ ⟨((cell_far (p := ⟨go10, _, none⟩) (fun e_ => Kd.own_blk (Kd.R_ne HO_3.out BK190.out (by decide)) e_.symm) _).trans (hHeld.1)), ((cell_far (p := ⟨go10, _, none⟩) (fun e_ => Kd.own_blk (Kd.R_ne HO_3.out BK190.out (by decide)) e_.symm) _).trans (hHeld.2.1)), ((cell_far (p := ⟨go10, _, none⟩) (fun e_ => Kd.own_blk (Kd.R_ne HO_3.out BK190.out (by decide)) e_.symm) _).trans (hHeld.2.2.1)), ((cell_far (p := ⟨go10, _, none⟩) (fun e_ => Kd.own_blk (Kd.R_ne HO_3.out BK190.out (by decide)) e_.symm) _).trans (hHeld.2.2.2))⟩ (fun hHeld => ?_)
          clear hK K
          refine pure_ (i := 8) (N := some 52) (v := ?_) (a' := ?_) #[true, true, true, true, true, true, true, true, true, false] rfl rfl (any_of HT_.out (by kernel_rfl)) (fun _ _ _ h => h) (Or.inl ⟨by rfl, ?_⟩) ?_ ?_; rotate_left; intro w'; go_simp; with_reducible rfl; rotate_left; simp only [Act.put, List.setIfInBounds_toArray, List.set_cons_zero, List.set_cons_succ, i64_w, i32_w]; rfl
          refine last_ (i := 9) (N := none) #[true, true, true, true, true, true, true, true, true, true] rfl rfl (one_of HT_.out (by kernel_rfl)) (by decide) (fun K hK => ?_)
          refine skip_ (w1 := ?_) (by rfl) rfl ?_ ?_
          rotate_left
          ·
           go_simp
           rfl
          refine hK.out _ _ ?_
          clear hK K
          refine done_ (done_of HT_.out (by kernel_rfl)) ?_
          try go_wp2
          (try simp only [← hl3_2])
          go_roundg k2
          case measure => have := HK1.out; have := HK2.out; omega
          case rel => exact ⟨(y196), (wrap64 (x29_2 + 1)), (by first | rfl | (simp [*]; done)), H', ⟨by have := HK1.out; have := HK2.out; omega⟩, ⟨by (try simp only [hl3_1]); (try simp only [hl3_2]); (with_reducible repeat (first | apply Kd.R_alloc | apply Kd.R_drewN | apply Kd.R_drew)); exact HQ51.out⟩, ⟨by (try simp only [hl3_1]); (try simp only [hl3_2]); (with_reducible repeat (first | refine blk_drewN ?_ _ | refine blk_drew ?_ | refine blk_alloc ?_ _)); refine blk_far ?_ (by have h_ := Kd.R_ne HO_3.out BK183.out (by decide); intro e_; exact h_ (by rw [e_]; rfl)) _; (with_reducible repeat (first | refine blk_drewN ?_ _ | refine blk_drew ?_ | refine blk_alloc ?_ _)); refine blk_far ?_ (by have h_ := Kd.R_ne HO_3.out BK183.out (by decide); intro e_; exact h_ (by rw [e_]; rfl)) _; exact bx BK183.out⟩, ⟨by repeat (first | (with_reducible first | exact HB.out | apply below_alloc | apply pw_below_drewN | apply below_drew1 | refine below_set ?_ GB10.out | refine below_set ?_ GB10.out | refine below_set ?_ GE183.out | refine below_set ?_ GE190.out) | exact HB.out)⟩⟩
         ·
          replace c42 := Bool.eq_false_iff.mpr c42
          subst c42
          have H1 : (proof_together.l1 k2 x3_2 a0_0 x24_1 l0_1 (l0_1.length : Int) (wrap64 (x29_2 + 1)) a0_0 l0_1) = some r := by rw [if_neg (show ¬ (false = true) by decide)] at H; exact H
          clear H
          have H := H1
          clear H1
          have H' := ak H
          clear H
          have p189 : 0 ≤ (x29_2 : Int) := oda
          have q189 : x29_2 < (l0_1.length : Int) := oda
          obtain ⟨ad189, e189, hx189_0, hx189_1, hx189_2, hx189_3⟩ := at_T98 HR0_1.out x29_2 p189 q189
          obtain rfl : ad187 = ad189 := (by injection e189)
          (try replace hx189_0 := (HB.out.cell (World.block_lt_of_cell? w _ hx189_0)).trans hx189_0)
          (try replace hx189_1 := (HB.out.cell (World.block_lt_of_cell? w _ hx189_1)).trans hx189_1)
          (try replace hx189_2 := (HB.out.cell (World.block_lt_of_cell? w _ hx189_2)).trans hx189_2)
          (try replace hx189_3 := (HB.out.cell (World.block_lt_of_cell? w _ hx189_3)).trans hx189_3)
          replace p189 := eq_true p189
          replace q189 := eq_true q189
          go_wp2_with (first | ((with_reducible refine gate_dst (N := 5) rfl ?_); refine box_event ?hg (N := 5) ?hd (cs := #[.int .i64 0, .int .i64 0, .int .i64 0, .int .i64 0]) (t := 98) ?hr ?_; (case hd => rfl); (case hg => rfl); (case hr => first | (go_simp; done) | (go_simp; rfl)); intro gb190 hg w52 hbox hb; have n0_ := ak (Kd.R_below (rx HO_3.out) hb); have n1_ := ak (blk_below (bx BK183.out) hb); have n2_ := ak (below_step lb hb); have n3_ := ak (hbox); have n4_ := ak ((by rw [hg]; exact (below_size lb) : w.heap.size ≤ gb190)); have n5_ := ak ((by rw [hg]; exact (below_size lb) : w.heap.size ≤ gb190)); have n6_ := ak ((by rw [hg]; exact Nat.ne_of_lt (blk_lt (g := gb183) (o := .cells #[.int .i64 a0_0, .slice (some ad187) l0_1.length c0_1] 24 (0, 0)) (bx BK183.out)) : gb183 ≠ gb190)); have n7_ := ak ((by rw [hg]; exact Nat.ne_of_gt (blk_lt (g := gb183) (o := .cells #[.int .i64 a0_0, .slice (some ad187) l0_1.length c0_1] 24 (0, 0)) (bx BK183.out)) : gb190 ≠ gb183)); clear HO_3; clear BK183; clear HB; have HO_3 := n0_; have BK183 := n1_; have HB := n2_; have BK190 := n3_; have GW190 := n4_; have GE190 := n5_; have NB183_190 := n6_; have NB190_183 := n7_; clear n0_ n1_ n2_ n3_ n4_ n5_ n6_ n7_; clear hb hbox hg; have hnb53 := NB190_183.out; have hnc53 := NB183_190.out; have hcz54_0 : w52.cell? ⟨gb190, 0, none⟩ = some (.int .i64 0) := (blk_cell BK190.out 0).trans rfl; have hcz54_1 : w52.cell? ⟨gb190, 1, none⟩ = some (.int .i64 0) := (blk_cell BK190.out 1).trans rfl; have hcz54_2 : w52.cell? ⟨gb190, 2, none⟩ = some (.int .i64 0) := (blk_cell BK190.out 2).trans rfl; have hcz54_3 : w52.cell? ⟨gb190, 3, none⟩ = some (.int .i64 0) := (blk_cell BK190.out 3).trans rfl; have hfz54_0 := blk_frozen BK190.out 0; have hfz54_1 := blk_frozen BK190.out 1; have hfz54_2 := blk_frozen BK190.out 2; have hfz54_3 := blk_frozen BK190.out 3; have p191 : 0 ≤ (((rd_T98 l0_1 x29_2).f0) : Int) := oda; have q191 : ((rd_T98 l0_1 x29_2).f0) < (x3_2.length : Int) := oda; obtain ⟨ad191, e191, hx191_0⟩ := Kd.at_bool (Kd.R_reads' HO_3.out).2.2 ((rd_T98 l0_1 x29_2).f0) p191 q191; (try rw [← Nbq26.out] at hx191_0); (try rw [← Nbq41.out] at hx191_0); obtain rfl : (⟨go10, 0, none⟩ : Addr) = ad191 := (by injection e191); (first | simp only [add_plain] at hx191_0 | simp only [add_at] at hx191_0 | simp only [Addr.add, Nat.zero_add] at hx191_0 | skip); have hn191_0 : (⟨go10, 0, none⟩ : Addr).block ≠ gb190 := Kd.own_blk (Kd.R_ne HO_3.out BK190.out (by decide)); have hn191_1 : (⟨go10, 0, none⟩ : Addr).block ≠ gb190 := Kd.own_blk (Kd.R_ne HO_3.out BK190.out (by decide)); have hn191_2 : (⟨go10, 0, none⟩ : Addr).block ≠ gb190 := Kd.own_blk (Kd.R_ne HO_3.out BK190.out (by decide)); have hn191_3 : (⟨go10, 0, none⟩ : Addr).block ≠ gb190 := Kd.own_blk (Kd.R_ne HO_3.out BK190.out (by decide)); replace hx191_0 := (cell_far (p := ⟨gb190, 0, none⟩) (by first | (rw [add_block]; exact hn191_0) | (show (Addr.add _ _).block ≠ _; rw [add_block]; exact hn191_0) | exact hn191_0) (.int .i64 ((rd_T98 l0_1 x29_2).f0))).trans hx191_0; replace hx191_0 := (cell_far (p := ⟨gb190, 1, none⟩) (by first | (rw [add_block]; exact hn191_1) | (show (Addr.add _ _).block ≠ _; rw [add_block]; exact hn191_1) | exact hn191_1) (.int .i64 ((rd_T98 l0_1 x29_2).f1))).trans hx191_0; replace hx191_0 := (cell_far (p := ⟨gb190, 2, none⟩) (by first | (rw [add_block]; exact hn191_2) | (show (Addr.add _ _).block ≠ _; rw [add_block]; exact hn191_2) | exact hn191_2) (.int .i64 ((rd_T98 l0_1 x29_2).f2))).trans hx191_0; replace hx191_0 := (cell_far (p := ⟨gb190, 3, none⟩) (by first | (rw [add_block]; exact hn191_3) | (show (Addr.add _ _).block ≠ _; rw [add_block]; exact hn191_3) | exact hn191_3) (.int .i64 ((rd_T98 l0_1 x29_2).f3))).trans hx191_0; clear hn191_0; clear hn191_1; clear hn191_2; clear hn191_3; replace p191 := eq_true p191; replace q191 := eq_true q191; have p194 : 0 ≤ (((rd_T98 l0_1 x29_2).f1) : Int) := oda; have q194 : ((rd_T98 l0_1 x29_2).f1) < (x3_2.length : Int) := oda; obtain ⟨ad194, e194, hx194_0⟩ := Kd.at_bool (Kd.R_reads' HO_3.out).2.2 ((rd_T98 l0_1 x29_2).f1) p194 q194; (try rw [← Nbq26.out] at hx194_0); (try rw [← Nbq41.out] at hx194_0); obtain rfl : (⟨go10, 0, none⟩ : Addr) = ad194 := (by injection e194); (first | simp only [add_plain] at hx194_0 | simp only [add_at] at hx194_0 | simp only [Addr.add, Nat.zero_add] at hx194_0 | skip); have hn194_0 : (⟨go10, 0, none⟩ : Addr).block ≠ gb190 := Kd.own_blk (Kd.R_ne HO_3.out BK190.out (by decide)); have hn194_1 : (⟨go10, 0, none⟩ : Addr).block ≠ gb190 := Kd.own_blk (Kd.R_ne HO_3.out BK190.out (by decide)); have hn194_2 : (⟨go10, 0, none⟩ : Addr).block ≠ gb190 := Kd.own_blk (Kd.R_ne HO_3.out BK190.out (by decide)); have hn194_3 : (⟨go10, 0, none⟩ : Addr).block ≠ gb190 := Kd.own_blk (Kd.R_ne HO_3.out BK190.out (by decide)); replace hx194_0 := (cell_far (p := ⟨gb190, 0, none⟩) (by first | (rw [add_block]; exact hn194_0) | (show (Addr.add _ _).block ≠ _; rw [add_block]; exact hn194_0) | exact hn194_0) (.int .i64 ((rd_T98 l0_1 x29_2).f0))).trans hx194_0; replace hx194_0 := (cell_far (p := ⟨gb190, 1, none⟩) (by first | (rw [add_block]; exact hn194_1) | (show (Addr.add _ _).block ≠ _; rw [add_block]; exact hn194_1) | exact hn194_1) (.int .i64 ((rd_T98 l0_1 x29_2).f1))).trans hx194_0; replace hx194_0 := (cell_far (p := ⟨gb190, 2, none⟩) (by first | (rw [add_block]; exact hn194_2) | (show (Addr.add _ _).block ≠ _; rw [add_block]; exact hn194_2) | exact hn194_2) (.int .i64 ((rd_T98 l0_1 x29_2).f2))).trans hx194_0; replace hx194_0 := (cell_far (p := ⟨gb190, 3, none⟩) (by first | (rw [add_block]; exact hn194_3) | (show (Addr.add _ _).block ≠ _; rw [add_block]; exact hn194_3) | exact hn194_3) (.int .i64 ((rd_T98 l0_1 x29_2).f3))).trans hx194_0; clear hn194_0; clear hn194_1; clear hn194_2; clear hn194_3; replace p194 := eq_true p194; replace q194 := eq_true q194))
          (try simp only [← hl3_2])
          go_roundg k2
          case measure => have := HK1.out; have := HK2.out; omega
          case rel => exact ⟨(x3_2), (wrap64 (x29_2 + 1)), (by first | rfl | (simp [*]; done)), H', ⟨by have := HK1.out; have := HK2.out; omega⟩, ⟨by (try simp only [hl3_1]); (try simp only [hl3_2]); exact rx (Kd.R_mono (Kd.R_far (p := ⟨gb190, 3, none⟩) (Kd.R_far (p := ⟨gb190, 2, none⟩) (Kd.R_far (p := ⟨gb190, 1, none⟩) (Kd.R_far (p := ⟨gb190, 0, none⟩) (Kd.R_types HO_3.out BK190.out (by decide)) (fun _ hk => hk.2) (.int .i64 ((rd_T98 l0_1 x29_2).f0))) (fun _ hk => hk.2) (.int .i64 ((rd_T98 l0_1 x29_2).f1))) (fun _ hk => hk.2) (.int .i64 ((rd_T98 l0_1 x29_2).f2))) (fun _ hk => hk.2) (.int .i64 ((rd_T98 l0_1 x29_2).f3))) (fun _ hk => trivial))⟩, ⟨by (try simp only [hl3_1]); (try simp only [hl3_2]); (with_reducible repeat (first | refine blk_drewN ?_ _ | refine blk_drew ?_ | refine blk_alloc ?_ _)); refine blk_far ?_ NB183_190.out _; (with_reducible repeat (first | refine blk_drewN ?_ _ | refine blk_drew ?_ | refine blk_alloc ?_ _)); refine blk_far ?_ NB183_190.out _; (with_reducible repeat (first | refine blk_drewN ?_ _ | refine blk_drew ?_ | refine blk_alloc ?_ _)); refine blk_far ?_ NB183_190.out _; (with_reducible repeat (first | refine blk_drewN ?_ _ | refine blk_drew ?_ | refine blk_alloc ?_ _)); refine blk_far ?_ NB183_190.out _; exact bx BK183.out⟩, ⟨lb⟩⟩
       ·
        rw [if_neg c21] at H
        have c21b0 : decide (x29_2 < (l0_1.length : Int)) = false := decide_eq_false c21
        clear c21
        have H' := ak H
        clear H
        go_wp2
        (try simp only [← hl3_1, ← hl3_2])
        go_roundg k2
        case measure => have := HK1.out; have := HK2.out; omega
        case rel => exact ⟨(x3_2), (wrap64 (x24_1 + 1)), (by first | rfl | (simp [*]; done)), H', ⟨by have := HK1.out; have := HK2.out; omega⟩, ⟨by (try simp only [hl3_1]); (try simp only [hl3_2]); exact rx HO_3.out⟩, ⟨by (try simp only [hl3_1]); (try simp only [hl3_2]); exact bx BK183.out⟩, ⟨lb⟩⟩
    ·
     rw [if_neg c19] at H
     have c19b0 : decide (x24_1 < a0_0) = false := decide_eq_false c19
     clear c19
     have H' := ak H
     clear H
     have hcz55_0 : wr.cell? ⟨gb183, 0, none⟩ = some (.int .i64 a0_0) := (blk_cell BK183.out 0).trans rfl
     have hcz55_1 : wr.cell? ⟨gb183, 1, none⟩ = some (.slice (some ad187) l0_1.length c0_1) := (blk_cell BK183.out 1).trans rfl
     have hfz55_0 := blk_frozen BK183.out 0
     have hfz55_1 := blk_frozen BK183.out 1
     go_wp2
     go_loopg [58] k1 (fun kq v58 w' => ∃ (x58_2 : Int), v58 = .int .i64 x58_2 ∧ Aside0 (proof_together.l2 kq x3_1 l0_1 (l0_1.length : Int) x58_2 = some r) ∧ Aside0 (kq ≤ k1) ∧ Aside0 (Kd.R Kd.bool 4 w' w.heap.size (fun _ => True) (.slice (some ⟨go10, 0, none⟩) x3_1.length co10) x3_1) ∧ Aside0 (w'.heap[gb183]? = some (.cells #[.int .i64 a0_0, (.slice (some ad187) l0_1.length c0_1)] 24 (0, 0))) ∧ Aside0 (Below w.heap.size w w'))
     case atStart => exact ⟨(0), (by first | rfl | (simp [*]; done)), H', ⟨Nat.le_refl _⟩, ⟨by (try simp only [hl3_1]); exact rx HO_3.out⟩, ⟨by (try simp only [hl3_1]); exact bx BK183.out⟩, ⟨lb⟩⟩
     case round =>
      clear H'
      try clear c1; try clear p1; try clear q1; try clear hx1; try clear qi1; try clear hf1; try clear c2; try clear c2b0; try clear c2b1; try clear c2b2; try clear p2; try clear q2; try clear hx2; try clear hf2; try clear c3; try clear p3; try clear q3; try clear hx3; try clear hf3; try clear c4; try clear p4; try clear q4; try clear hx4; try clear hf4; try clear c5; try clear c5b0; try clear c5b1; try clear c6; try clear c6b0; try clear c6b1; try clear p6; try clear c7; try clear c7b0; try clear c7b1; try clear c8; try clear c8b0; try clear c9; try clear c9b0; try clear p10; try clear q10; try clear hx10; try clear hf10; try clear p18; try clear q18; try clear hx18; try clear qi18; try clear c19; try clear c19b0; try clear p19; try clear q19; try clear hx19; try clear c21; try clear c21b0; try clear c22; try clear c22b0; try clear c23; try clear c23b0; try clear c24; try clear c24b0; try clear c25; try clear c25b0; try clear q26; try clear c27; try clear p28; try clear q28; try clear hx28; try clear hf28; try clear c29; try clear c29b0; try clear c30; try clear c30b0; try clear p31; try clear q31; try clear hx31; try clear hf31; try clear c33; try clear c39; try clear c39b0; try clear c40; try clear c40b0; try clear q41; try clear c42; try clear p43; try clear q43; try clear hx43; try clear hf43; try clear p44; try clear q44; try clear hx44; try clear hf44; try clear c46; try clear c53; try clear hcz12_0; try clear hcz12_1; try clear hcz15_0; try clear hcz15_1; try clear hcz18_0; try clear hcz18_1; try clear hcz20_0; try clear hcz20_1; try clear hcz34_0; try clear hcz34_1; try clear hcz34_2; try clear hcz34_3; try clear hcz47_0; try clear hcz47_1; try clear hcz47_2; try clear hcz47_3; try clear hcz4_0; try clear hcz4_1; try clear hcz54_0; try clear hcz54_1; try clear hcz54_2; try clear hcz54_3; try clear hcz55_0; try clear hcz55_1; try clear hfz12_0; try clear hfz12_1; try clear hfz15_0; try clear hfz15_1; try clear hfz18_0; try clear hfz18_1; try clear hfz20_0; try clear hfz20_1; try clear hfz34_0; try clear hfz34_1; try clear hfz34_2; try clear hfz34_3; try clear hfz47_0; try clear hfz47_1; try clear hfz47_2; try clear hfz47_3; try clear hfz4_0; try clear hfz4_1; try clear hfz54_0; try clear hfz54_1; try clear hfz54_2; try clear hfz54_3; try clear hfz55_0; try clear hfz55_1; try clear hx10_0; try clear hx187_0; try clear hx187_1; try clear hx187_2; try clear hx187_3; try clear hx189_0; try clear hx189_1; try clear hx189_2; try clear hx189_3; try clear hx191_0; try clear hx194_0; try clear hx28_0; try clear hx31_0; try clear hx43_0; try clear hx44_0; try clear p1; try clear p10; try clear p18; try clear p187; try clear p189; try clear p191; try clear p194; try clear p2; try clear p28; try clear p31; try clear p43; try clear p44; try clear q1; try clear q10; try clear q18; try clear q187; try clear q189; try clear q191; try clear q194; try clear q28; try clear q31; try clear q43; try clear q44
      obtain ⟨x58_2, rfl, HA, HK2, HO_3, BK183, HB⟩ := hrel
      cases gk with
      | zero => exact absurd HA.out (by simp [proof_together.l2])
      | succ k2 =>
       have H := HA.out
       clear HA
       simp only [proof_together.l2] at H
       by_cases c56 : x58_2 < (l0_1.length : Int)
       ·
        rw [if_pos c56] at H
        have c56b0 : decide (x58_2 < (l0_1.length : Int)) = true := decide_eq_true c56
        clear c56
        by_cases c57 : 0 ≤ x58_2
        rotate_left
        ·
         rw [if_neg c57] at H
         exact absurd H (by simp)
        rw [if_pos c57] at H
        have c57b0 : decide (0 ≤ x58_2) = true := decide_eq_true c57
        clear c57
        by_cases c58 : x58_2 < (l0_1.length : Int)
        rotate_left
        ·
         rw [if_neg c58] at H
         exact absurd H (by simp)
        rw [if_pos c58] at H
        have c58b0 : decide (x58_2 < (l0_1.length : Int)) = true := decide_eq_true c58
        clear c58
        by_cases c59 : 0 ≤ ((rd_T98 l0_1 x58_2).f0)
        rotate_left
        ·
         rw [if_neg c59] at H
         exact absurd H (by simp)
        rw [if_pos c59] at H
        have c59b0 : decide (0 ≤ ((rd_T98 l0_1 x58_2).f0)) = true := decide_eq_true c59
        clear c59
        by_cases c60 : ((rd_T98 l0_1 x58_2).f0) < (x3_1.length : Int)
        rotate_left
        ·
         rw [if_neg c60] at H
         exact absurd H (by simp)
        rw [if_pos c60] at H
        have c60b0 : decide (((rd_T98 l0_1 x58_2).f0) < (x3_1.length : Int)) = true := decide_eq_true c60
        clear c60
        obtain ⟨bq61, hbq61⟩ : ∃ b_ : Bool, b_ = (rdOf false x3_1 ((rd_T98 l0_1 x58_2).f0)) := ⟨_, rfl⟩
        replace H : (if (bq61 = true) then (proof_together.l2 k2 x3_1 l0_1 (l0_1.length : Int) (wrap64 (x58_2 + 1))) else (some false)) = some r := by rw [← hbq61] at H; exact H
        have Nbq61 := ak hbq61
        clear hbq61
        by_cases c62 : (bq61 = true)
        ·
         subst c62
         have H1 : (proof_together.l2 k2 x3_1 l0_1 (l0_1.length : Int) (wrap64 (x58_2 + 1))) = some r := by rw [if_pos rfl] at H; exact H
         clear H
         have H := H1
         clear H1
         have H' := ak H
         clear H
         have p197 : 0 ≤ (x58_2 : Int) := oda
         have q197 : x58_2 < (l0_1.length : Int) := oda
         obtain ⟨ad197, e197, hx197_0, hx197_1, hx197_2, hx197_3⟩ := at_T98 HR0_1.out x58_2 p197 q197
         obtain rfl : ad187 = ad197 := (by injection e197)
         (try replace hx197_0 := (HB.out.cell (World.block_lt_of_cell? w _ hx197_0)).trans hx197_0)
         (try replace hx197_1 := (HB.out.cell (World.block_lt_of_cell? w _ hx197_1)).trans hx197_1)
         (try replace hx197_2 := (HB.out.cell (World.block_lt_of_cell? w _ hx197_2)).trans hx197_2)
         (try replace hx197_3 := (HB.out.cell (World.block_lt_of_cell? w _ hx197_3)).trans hx197_3)
         replace p197 := eq_true p197
         replace q197 := eq_true q197
         go_wp2_with (first | ((with_reducible refine gate_dst (N := 7) rfl ?_); refine box_event ?hg (N := 7) ?hd (cs := #[.int .i64 0, .int .i64 0, .int .i64 0, .int .i64 0]) (t := 98) ?hr ?_; (case hd => rfl); (case hg => rfl); (case hr => first | (go_simp; done) | (go_simp; rfl)); intro gb198 hg w63 hbox hb; have n0_ := ak (Kd.R_below (rx HO_3.out) hb); have n1_ := ak (blk_below (bx BK183.out) hb); have n2_ := ak (below_step lb hb); have n3_ := ak (hbox); have n4_ := ak ((by rw [hg]; exact (below_size lb) : w.heap.size ≤ gb198)); have n5_ := ak ((by rw [hg]; exact (below_size lb) : w.heap.size ≤ gb198)); have n6_ := ak ((by rw [hg]; exact Nat.ne_of_lt (blk_lt (g := gb183) (o := .cells #[.int .i64 a0_0, .slice (some ad187) l0_1.length c0_1] 24 (0, 0)) (bx BK183.out)) : gb183 ≠ gb198)); have n7_ := ak ((by rw [hg]; exact Nat.ne_of_gt (blk_lt (g := gb183) (o := .cells #[.int .i64 a0_0, .slice (some ad187) l0_1.length c0_1] 24 (0, 0)) (bx BK183.out)) : gb198 ≠ gb183)); clear HO_3; clear BK183; clear HB; have HO_3 := n0_; have BK183 := n1_; have HB := n2_; have BK198 := n3_; have GW198 := n4_; have GE198 := n5_; have NB183_198 := n6_; have NB198_183 := n7_; clear n0_ n1_ n2_ n3_ n4_ n5_ n6_ n7_; clear hb hbox hg; have hnb64 := NB198_183.out; have hnc64 := NB183_198.out; have hcz65_0 : w63.cell? ⟨gb198, 0, none⟩ = some (.int .i64 0) := (blk_cell BK198.out 0).trans rfl; have hcz65_1 : w63.cell? ⟨gb198, 1, none⟩ = some (.int .i64 0) := (blk_cell BK198.out 1).trans rfl; have hcz65_2 : w63.cell? ⟨gb198, 2, none⟩ = some (.int .i64 0) := (blk_cell BK198.out 2).trans rfl; have hcz65_3 : w63.cell? ⟨gb198, 3, none⟩ = some (.int .i64 0) := (blk_cell BK198.out 3).trans rfl; have hfz65_0 := blk_frozen BK198.out 0; have hfz65_1 := blk_frozen BK198.out 1; have hfz65_2 := blk_frozen BK198.out 2; have hfz65_3 := blk_frozen BK198.out 3; have p199 : 0 ≤ (((rd_T98 l0_1 x58_2).f0) : Int) := oda; have q199 : ((rd_T98 l0_1 x58_2).f0) < (x3_1.length : Int) := oda; obtain ⟨ad199, e199, hx199_0⟩ := Kd.at_bool (Kd.R_reads' HO_3.out).2.2 ((rd_T98 l0_1 x58_2).f0) p199 q199; (try rw [← Nbq61.out] at hx199_0); obtain rfl : (⟨go10, 0, none⟩ : Addr) = ad199 := (by injection e199); (first | simp only [add_plain] at hx199_0 | simp only [add_at] at hx199_0 | simp only [Addr.add, Nat.zero_add] at hx199_0 | skip); have hn199_0 : (⟨go10, 0, none⟩ : Addr).block ≠ gb198 := Kd.own_blk (Kd.R_ne HO_3.out BK198.out (by decide)); have hn199_1 : (⟨go10, 0, none⟩ : Addr).block ≠ gb198 := Kd.own_blk (Kd.R_ne HO_3.out BK198.out (by decide)); have hn199_2 : (⟨go10, 0, none⟩ : Addr).block ≠ gb198 := Kd.own_blk (Kd.R_ne HO_3.out BK198.out (by decide)); have hn199_3 : (⟨go10, 0, none⟩ : Addr).block ≠ gb198 := Kd.own_blk (Kd.R_ne HO_3.out BK198.out (by decide)); replace hx199_0 := (cell_far (p := ⟨gb198, 0, none⟩) (by first | (rw [add_block]; exact hn199_0) | (show (Addr.add _ _).block ≠ _; rw [add_block]; exact hn199_0) | exact hn199_0) (.int .i64 ((rd_T98 l0_1 x58_2).f0))).trans hx199_0; replace hx199_0 := (cell_far (p := ⟨gb198, 1, none⟩) (by first | (rw [add_block]; exact hn199_1) | (show (Addr.add _ _).block ≠ _; rw [add_block]; exact hn199_1) | exact hn199_1) (.int .i64 ((rd_T98 l0_1 x58_2).f1))).trans hx199_0; replace hx199_0 := (cell_far (p := ⟨gb198, 2, none⟩) (by first | (rw [add_block]; exact hn199_2) | (show (Addr.add _ _).block ≠ _; rw [add_block]; exact hn199_2) | exact hn199_2) (.int .i64 ((rd_T98 l0_1 x58_2).f2))).trans hx199_0; replace hx199_0 := (cell_far (p := ⟨gb198, 3, none⟩) (by first | (rw [add_block]; exact hn199_3) | (show (Addr.add _ _).block ≠ _; rw [add_block]; exact hn199_3) | exact hn199_3) (.int .i64 ((rd_T98 l0_1 x58_2).f3))).trans hx199_0; clear hn199_0; clear hn199_1; clear hn199_2; clear hn199_3; replace p199 := eq_true p199; replace q199 := eq_true q199))
         go_roundg k2
         case measure => have := HK1.out; have := HK2.out; omega
         case rel => exact ⟨(wrap64 (x58_2 + 1)), (by first | rfl | (simp [*]; done)), H', ⟨by have := HK1.out; have := HK2.out; omega⟩, ⟨by (try simp only [hl3_1]); exact rx (Kd.R_mono (Kd.R_far (p := ⟨gb198, 3, none⟩) (Kd.R_far (p := ⟨gb198, 2, none⟩) (Kd.R_far (p := ⟨gb198, 1, none⟩) (Kd.R_far (p := ⟨gb198, 0, none⟩) (Kd.R_types HO_3.out BK198.out (by decide)) (fun _ hk => hk.2) (.int .i64 ((rd_T98 l0_1 x58_2).f0))) (fun _ hk => hk.2) (.int .i64 ((rd_T98 l0_1 x58_2).f1))) (fun _ hk => hk.2) (.int .i64 ((rd_T98 l0_1 x58_2).f2))) (fun _ hk => hk.2) (.int .i64 ((rd_T98 l0_1 x58_2).f3))) (fun _ hk => trivial))⟩, ⟨by (try simp only [hl3_1]); (with_reducible repeat (first | refine blk_drewN ?_ _ | refine blk_drew ?_ | refine blk_alloc ?_ _)); refine blk_far ?_ NB183_198.out _; (with_reducible repeat (first | refine blk_drewN ?_ _ | refine blk_drew ?_ | refine blk_alloc ?_ _)); refine blk_far ?_ NB183_198.out _; (with_reducible repeat (first | refine blk_drewN ?_ _ | refine blk_drew ?_ | refine blk_alloc ?_ _)); refine blk_far ?_ NB183_198.out _; (with_reducible repeat (first | refine blk_drewN ?_ _ | refine blk_drew ?_ | refine blk_alloc ?_ _)); refine blk_far ?_ NB183_198.out _; exact bx BK183.out⟩, ⟨lb⟩⟩
        ·
         replace c62 := Bool.eq_false_iff.mpr c62
         subst c62
         have H1 : (some false) = some r := by rw [if_neg (show ¬ (false = true) by decide)] at H; exact H
         clear H
         have H := H1
         clear H1
         obtain rfl := Option.some.inj H
         have p197 : 0 ≤ (x58_2 : Int) := oda
         have q197 : x58_2 < (l0_1.length : Int) := oda
         obtain ⟨ad197, e197, hx197_0, hx197_1, hx197_2, hx197_3⟩ := at_T98 HR0_1.out x58_2 p197 q197
         obtain rfl : ad187 = ad197 := (by injection e197)
         (try replace hx197_0 := (HB.out.cell (World.block_lt_of_cell? w _ hx197_0)).trans hx197_0)
         (try replace hx197_1 := (HB.out.cell (World.block_lt_of_cell? w _ hx197_1)).trans hx197_1)
         (try replace hx197_2 := (HB.out.cell (World.block_lt_of_cell? w _ hx197_2)).trans hx197_2)
         (try replace hx197_3 := (HB.out.cell (World.block_lt_of_cell? w _ hx197_3)).trans hx197_3)
         replace p197 := eq_true p197
         replace q197 := eq_true q197
         go_wp2_with (first | ((with_reducible refine gate_dst (N := 7) rfl ?_); refine box_event ?hg (N := 7) ?hd (cs := #[.int .i64 0, .int .i64 0, .int .i64 0, .int .i64 0]) (t := 98) ?hr ?_; (case hd => rfl); (case hg => rfl); (case hr => first | (go_simp; done) | (go_simp; rfl)); intro gb198 hg w66 hbox hb; have n0_ := ak (Kd.R_below (rx HO_3.out) hb); have n1_ := ak (blk_below (bx BK183.out) hb); have n2_ := ak (below_step lb hb); have n3_ := ak (hbox); have n4_ := ak ((by rw [hg]; exact (below_size lb) : w.heap.size ≤ gb198)); have n5_ := ak ((by rw [hg]; exact (below_size lb) : w.heap.size ≤ gb198)); have n6_ := ak ((by rw [hg]; exact Nat.ne_of_lt (blk_lt (g := gb183) (o := .cells #[.int .i64 a0_0, .slice (some ad187) l0_1.length c0_1] 24 (0, 0)) (bx BK183.out)) : gb183 ≠ gb198)); have n7_ := ak ((by rw [hg]; exact Nat.ne_of_gt (blk_lt (g := gb183) (o := .cells #[.int .i64 a0_0, .slice (some ad187) l0_1.length c0_1] 24 (0, 0)) (bx BK183.out)) : gb198 ≠ gb183)); clear HO_3; clear BK183; clear HB; have HO_3 := n0_; have BK183 := n1_; have HB := n2_; have BK198 := n3_; have GW198 := n4_; have GE198 := n5_; have NB183_198 := n6_; have NB198_183 := n7_; clear n0_ n1_ n2_ n3_ n4_ n5_ n6_ n7_; clear hb hbox hg; have hnb67 := NB198_183.out; have hnc67 := NB183_198.out; have hcz68_0 : w66.cell? ⟨gb198, 0, none⟩ = some (.int .i64 0) := (blk_cell BK198.out 0).trans rfl; have hcz68_1 : w66.cell? ⟨gb198, 1, none⟩ = some (.int .i64 0) := (blk_cell BK198.out 1).trans rfl; have hcz68_2 : w66.cell? ⟨gb198, 2, none⟩ = some (.int .i64 0) := (blk_cell BK198.out 2).trans rfl; have hcz68_3 : w66.cell? ⟨gb198, 3, none⟩ = some (.int .i64 0) := (blk_cell BK198.out 3).trans rfl; have hfz68_0 := blk_frozen BK198.out 0; have hfz68_1 := blk_frozen BK198.out 1; have hfz68_2 := blk_frozen BK198.out 2; have hfz68_3 := blk_frozen BK198.out 3; have p199 : 0 ≤ (((rd_T98 l0_1 x58_2).f0) : Int) := oda; have q199 : ((rd_T98 l0_1 x58_2).f0) < (x3_1.length : Int) := oda; obtain ⟨ad199, e199, hx199_0⟩ := Kd.at_bool (Kd.R_reads' HO_3.out).2.2 ((rd_T98 l0_1 x58_2).f0) p199 q199; (try rw [← Nbq61.out] at hx199_0); obtain rfl : (⟨go10, 0, none⟩ : Addr) = ad199 := (by injection e199); (first | simp only [add_plain] at hx199_0 | simp only [add_at] at hx199_0 | simp only [Addr.add, Nat.zero_add] at hx199_0 | skip); have hn199_0 : (⟨go10, 0, none⟩ : Addr).block ≠ gb198 := Kd.own_blk (Kd.R_ne HO_3.out BK198.out (by decide)); have hn199_1 : (⟨go10, 0, none⟩ : Addr).block ≠ gb198 := Kd.own_blk (Kd.R_ne HO_3.out BK198.out (by decide)); have hn199_2 : (⟨go10, 0, none⟩ : Addr).block ≠ gb198 := Kd.own_blk (Kd.R_ne HO_3.out BK198.out (by decide)); have hn199_3 : (⟨go10, 0, none⟩ : Addr).block ≠ gb198 := Kd.own_blk (Kd.R_ne HO_3.out BK198.out (by decide)); replace hx199_0 := (cell_far (p := ⟨gb198, 0, none⟩) (by first | (rw [add_block]; exact hn199_0) | (show (Addr.add _ _).block ≠ _; rw [add_block]; exact hn199_0) | exact hn199_0) (.int .i64 ((rd_T98 l0_1 x58_2).f0))).trans hx199_0; replace hx199_0 := (cell_far (p := ⟨gb198, 1, none⟩) (by first | (rw [add_block]; exact hn199_1) | (show (Addr.add _ _).block ≠ _; rw [add_block]; exact hn199_1) | exact hn199_1) (.int .i64 ((rd_T98 l0_1 x58_2).f1))).trans hx199_0; replace hx199_0 := (cell_far (p := ⟨gb198, 2, none⟩) (by first | (rw [add_block]; exact hn199_2) | (show (Addr.add _ _).block ≠ _; rw [add_block]; exact hn199_2) | exact hn199_2) (.int .i64 ((rd_T98 l0_1 x58_2).f2))).trans hx199_0; replace hx199_0 := (cell_far (p := ⟨gb198, 3, none⟩) (by first | (rw [add_block]; exact hn199_3) | (show (Addr.add _ _).block ≠ _; rw [add_block]; exact hn199_3) | exact hn199_3) (.int .i64 ((rd_T98 l0_1 x58_2).f3))).trans hx199_0; clear hn199_0; clear hn199_1; clear hn199_2; clear hn199_3; replace p199 := eq_true p199; replace q199 := eq_true q199))
         go_ret
         exact ⟨by first | rfl | (simp [errW_none, errW_some] <;> rfl) | (simp [*, errW_none, errW_some] <;> rfl), lb⟩
       ·
        rw [if_neg c56] at H
        have c56b0 : decide (x58_2 < (l0_1.length : Int)) = false := decide_eq_false c56
        clear c56
        obtain rfl := Option.some.inj H
        go_wp2
        go_ret
        exact ⟨by first | rfl | (simp [errW_none, errW_some] <;> rfl) | (simp [*, errW_none, errW_some] <;> rfl), lb⟩
end Go.Proofs.Ytkdoihcjhccliaa.Q
