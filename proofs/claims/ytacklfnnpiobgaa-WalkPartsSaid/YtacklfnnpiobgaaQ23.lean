-- PRINTED by print.py (a twelfth state) out of the translation. Not trusted: Lean checks it.
import Derived.Test.YtacklfnnpiobgaaQ0
import Derived.Test.YtacklfnnpiobgaaQ11
import Derived.Test.YtacklfnnpiobgaaQ19
import Derived.Test.YtacklfnnpiobgaaQ22
namespace Go.Proofs.Ytacklfnnpiobgaa.Q
open Go.RowKit Go.Proofs.YtacklfnnpiobgaaW.PrintWords Go.Proofs.YtacklfnnpiobgaaW.PrintLast Go.Proofs.YtacklfnnpiobgaaW.PrintMore
attribute [local go_sem] max2_int min2_int max_two min_two max_three min_three max_four min_four   -- for this text's walks alone
set_option linter.unusedVariables false
set_option linter.unusedSimpArgs false

/-! ### compassref04_Strong: function 25 -/
mutual
def compassref04_Strong.l0 : Nat → List (List Int) → Int → Int → List (S41) → Option (List Int × Int)
  | 0, _, _, _, _ => none
  | k + 1, x6, x7, x462000, x462001 => if x7 < x462000 then ((compassref04_Levels.f k x462000 x462001 x7).bind fun bt467 => (if 0 ≤ x7 then (if x7 < (x6.length : Int) then (compassref04_Strong.l0 k (x6.set (x7 : Int).toNat bt467.1) (wrap64 (x7 + 1)) x462000 x462001) else (none)) else (none))) else (if 0 ≤ x462000 then (if (x462000 : Int).toNat ≤ 35184372088832 then (compassref04_Strong.l1 k x6 (List.replicate (x462000 : Int).toNat 0) 0 x462000 x462001) else (none)) else (none))
def compassref04_Strong.l1 : Nat → List (List Int) → List Int → Int → Int → List (S41) → Option (List Int × Int)
  | 0, _, _, _, _, _ => none
  | k + 1, x6, x8, x9, x462000, x462001 => if x9 < x462000 then (if 0 ≤ x9 then (if x9 < (x8.length : Int) then (compassref04_Strong.l2 k x6 (x8.set (x9 : Int).toNat x9) x9 (wrap64 (x462000 - 1)) x462000 x462001) else (none)) else (none)) else ((compassref04_Numbered.f k x8).bind fun t475 => (some (t475, 0)))
def compassref04_Strong.l2 : Nat → List (List Int) → List Int → Int → Int → Int → List (S41) → Option (List Int × Int)
  | 0, _, _, _, _, _, _ => none
  | k + 1, x6, x8, x9, x10, x462000, x462001 => if x10 ≥ 0 then (if 0 ≤ x10 then (if x10 < (x6.length : Int) then (if 0 ≤ x9 then (if x9 < ((rd_L2 x6 x10).length : Int) then (if (rd (rd_L2 x6 x10) x9) ≥ 0 then (if x9 < (x6.length : Int) then (if x10 < ((rd_L2 x6 x9).length : Int) then (if (rd (rd_L2 x6 x9) x10) ≥ 0 then (if x9 < (x8.length : Int) then (if x10 < (rd x8 x9) then (compassref04_Strong.l2 k x6 (x8.set (x9 : Int).toNat x10) x9 (wrap64 (x10 - 1)) x462000 x462001) else (compassref04_Strong.l2 k x6 x8 x9 (wrap64 (x10 - 1)) x462000 x462001)) else (none)) else (compassref04_Strong.l2 k x6 x8 x9 (wrap64 (x10 - 1)) x462000 x462001)) else (none)) else (none)) else (compassref04_Strong.l2 k x6 x8 x9 (wrap64 (x10 - 1)) x462000 x462001)) else (none)) else (none)) else (none)) else (none)) else (compassref04_Strong.l1 k x6 x8 (wrap64 (x9 + 1)) x462000 x462001)
end
def compassref04_Strong.f (k : Nat) (a0_0 : Int) (l0_1 : List (S41)) : Option (List Int × Int) := (compassref03_Check.f k a0_0 l0_1).bind fun bt462 => (if bt462.1 = 0 then (if 0 ≤ a0_0 then (if (a0_0 : Int).toNat ≤ 11728124029610 then (compassref04_Strong.l0 k (List.replicate (a0_0 : Int).toNat []) 0 a0_0 l0_1) else (none)) else (none)) else (some (([] : List Int), bt462.1)))
theorem compassref04_Strong.mono_l : ∀ k, (∀ y0 y1 y2 y3, LeO (compassref04_Strong.l0 k y0 y1 y2 y3) (compassref04_Strong.l0 (k + 1) y0 y1 y2 y3)) ∧ (∀ y0 y1 y2 y3 y4, LeO (compassref04_Strong.l1 k y0 y1 y2 y3 y4) (compassref04_Strong.l1 (k + 1) y0 y1 y2 y3 y4)) ∧ (∀ y0 y1 y2 y3 y4 y5, LeO (compassref04_Strong.l2 k y0 y1 y2 y3 y4 y5) (compassref04_Strong.l2 (k + 1) y0 y1 y2 y3 y4 y5))
  | 0 => ⟨fun _ _ _ _ r h => by simp [compassref04_Strong.l0] at h, fun _ _ _ _ _ r h => by simp [compassref04_Strong.l1] at h, fun _ _ _ _ _ _ r h => by simp [compassref04_Strong.l2] at h⟩
  | k + 1 => by
    obtain ⟨ih0, ih1, ih2⟩ := compassref04_Strong.mono_l k
    refine ⟨?_, ?_, ?_⟩
    · intro y0 y1 y2 y3
      unfold compassref04_Strong.l0
      repeat' first
      | (with_reducible exact ih0 _ _ _ _)
      | (with_reducible exact ih1 _ _ _ _ _)
      | (with_reducible exact ih2 _ _ _ _ _ _)
      | (with_reducible exact compassref03_Check.mono _ _ _)
      | (with_reducible exact compassref04_Levels.mono _ _ _ _)
      | (with_reducible exact compassref04_Numbered.mono _ _)
      | (with_reducible exact LeO.refl _)
      | (with_reducible exact LeO.none _)
      | (with_reducible refine LeO.ite ?_ ?_)
      | (with_reducible refine LeO.bind ?_ (fun _ => ?_))
      | exact ih0 _ _ _ _
      | exact ih1 _ _ _ _ _
      | exact ih2 _ _ _ _ _ _
      | exact compassref03_Check.mono _ _ _
      | exact compassref04_Levels.mono _ _ _ _
      | exact compassref04_Numbered.mono _ _
      | exact LeO.none _
      | refine LeO.ite ?_ ?_
      | refine LeO.bind ?_ (fun _ => ?_)
    · intro y0 y1 y2 y3 y4
      unfold compassref04_Strong.l1
      repeat' first
      | (with_reducible exact ih0 _ _ _ _)
      | (with_reducible exact ih1 _ _ _ _ _)
      | (with_reducible exact ih2 _ _ _ _ _ _)
      | (with_reducible exact compassref03_Check.mono _ _ _)
      | (with_reducible exact compassref04_Levels.mono _ _ _ _)
      | (with_reducible exact compassref04_Numbered.mono _ _)
      | (with_reducible exact LeO.refl _)
      | (with_reducible exact LeO.none _)
      | (with_reducible refine LeO.ite ?_ ?_)
      | (with_reducible refine LeO.bind ?_ (fun _ => ?_))
      | exact ih0 _ _ _ _
      | exact ih1 _ _ _ _ _
      | exact ih2 _ _ _ _ _ _
      | exact compassref03_Check.mono _ _ _
      | exact compassref04_Levels.mono _ _ _ _
      | exact compassref04_Numbered.mono _ _
      | exact LeO.none _
      | refine LeO.ite ?_ ?_
      | refine LeO.bind ?_ (fun _ => ?_)
    · intro y0 y1 y2 y3 y4 y5
      unfold compassref04_Strong.l2
      repeat' first
      | (with_reducible exact ih0 _ _ _ _)
      | (with_reducible exact ih1 _ _ _ _ _)
      | (with_reducible exact ih2 _ _ _ _ _ _)
      | (with_reducible exact compassref03_Check.mono _ _ _)
      | (with_reducible exact compassref04_Levels.mono _ _ _ _)
      | (with_reducible exact compassref04_Numbered.mono _ _)
      | (with_reducible exact LeO.refl _)
      | (with_reducible exact LeO.none _)
      | (with_reducible refine LeO.ite ?_ ?_)
      | (with_reducible refine LeO.bind ?_ (fun _ => ?_))
      | exact ih0 _ _ _ _
      | exact ih1 _ _ _ _ _
      | exact ih2 _ _ _ _ _ _
      | exact compassref03_Check.mono _ _ _
      | exact compassref04_Levels.mono _ _ _ _
      | exact compassref04_Numbered.mono _ _
      | exact LeO.none _
      | refine LeO.ite ?_ ?_
      | refine LeO.bind ?_ (fun _ => ?_)
theorem compassref04_Strong.mono : ∀ a0 a1 k, LeO (compassref04_Strong.f k a0 a1) (compassref04_Strong.f (k + 1) a0 a1) := by
  intro a0 a1 k
  obtain ⟨ih0, ih1, ih2⟩ := compassref04_Strong.mono_l k
  unfold compassref04_Strong.f
  repeat' first
      | (with_reducible exact ih0 _ _ _ _)
      | (with_reducible exact ih1 _ _ _ _ _)
      | (with_reducible exact ih2 _ _ _ _ _ _)
      | (with_reducible exact compassref03_Check.mono _ _ _)
      | (with_reducible exact compassref04_Levels.mono _ _ _ _)
      | (with_reducible exact compassref04_Numbered.mono _ _)
      | (with_reducible exact LeO.refl _)
      | (with_reducible exact LeO.none _)
      | (with_reducible refine LeO.ite ?_ ?_)
      | (with_reducible refine LeO.bind ?_ (fun _ => ?_))
      | exact ih0 _ _ _ _
      | exact ih1 _ _ _ _ _
      | exact ih2 _ _ _ _ _ _
      | exact compassref03_Check.mono _ _ _
      | exact compassref04_Levels.mono _ _ _ _
      | exact compassref04_Numbered.mono _ _
      | exact LeO.none _
      | refine LeO.ite ?_ ?_
      | refine LeO.bind ?_ (fun _ => ?_)
set_option maxHeartbeats 8000000 in
set_option maxRecDepth 100000 in
theorem compassref04_Strong.calls (k : Nat) (a0_0 : Int) (A0_1 : Option Addr) (c0_1 : Nat) (l0_1 : List (S41)) (r1 : List Int) (r2 : Int) (w : World) (hr0_1 : Kd.C k41 w A0_1 l0_1.length l0_1) (hc0_1 : l0_1.length ≤ c0_1) (h : compassref04_Strong.f k a0_0 l0_1 = some (r1, r2)) :
    Calls Try.prog 25 #[.agg #[.int .i64 a0_0, .slice A0_1 l0_1.length c0_1]] w fun e w' => ∃ v0_ : Value, e = .returned (.tuple #[v0_, .int .i64 r2]) ∧ Kd.R (Kd.int .i64) 3 w' w.heap.size (fun _ => True) v0_ r1 ∧ Below w.heap.size w w' := by
 have hu24 := Try.underlying24
 have HR0_1 := ak hr0_1
 have HC0_1 := ak hc0_1
 clear hr0_1 hc0_1
 have HB := ak (Below.refl w.heap.size w)
 have H : ((compassref03_Check.f k a0_0 l0_1).bind fun bt462 => (if bt462.1 = 0 then (if 0 ≤ a0_0 then (if (a0_0 : Int).toNat ≤ 11728124029610 then (compassref04_Strong.l0 k (List.replicate (a0_0 : Int).toNat []) 0 a0_0 l0_1) else (none)) else (none)) else (some (([] : List Int), bt462.1)))) = some (r1, r2) := h
 clear h
 replace H := Option.bind_eq_some_iff.mp H
 obtain ⟨⟨t462, t463⟩, A20, H⟩ := H
 replace H : (if t462 = 0 then (if 0 ≤ a0_0 then (if (a0_0 : Int).toNat ≤ 11728124029610 then (compassref04_Strong.l0 k (List.replicate (a0_0 : Int).toNat []) 0 a0_0 l0_1) else (none)) else (none)) else (some (([] : List Int), t462))) = some (r1, r2) := H
 have A2 := ak A20
 clear A20
 by_cases c3 : t462 = 0
 ·
  rw [if_pos c3] at H
  have c3b0 : (t462 == 0) = true := beq_iff_eq.mpr c3
  have c3b1 : (t462 != 0) = false := bne_eq_false_iff_eq.mpr c3
  clear c3
  by_cases c4 : 0 ≤ a0_0
  rotate_left
  ·
   rw [if_neg c4] at H
   exact absurd H (by simp)
  rw [if_pos c4] at H
  have c4b0 := eq_true c4
  have c4b1 : decide (0 ≤ a0_0) = true := decide_eq_true c4
  clear c4
  by_cases c5 : (a0_0 : Int).toNat ≤ 11728124029610
  rotate_left
  ·
   rw [if_neg c5] at H
   exact absurd H (by simp)
  rw [if_pos c5] at H
  have c5b0 := eq_true c5
  have c5b1 : decide ((a0_0 : Int).toNat ≤ 11728124029610) = true := decide_eq_true c5
  clear c5
  obtain ⟨y464, hy464⟩ : ∃ y_ : List (List Int), y_ = (List.replicate (a0_0 : Int).toNat []) := ⟨_, rfl⟩
  replace H : (compassref04_Strong.l0 k y464 0 a0_0 l0_1) = some (r1, r2) := by first | (rw [hy464]; exact H) | exact H
  have Ny464 := ak hy464
  clear hy464
  have H' := ak H
  clear H
  go_enter Try.func25, Try.ntmps25
  go_wp2_with (first | ((with_reducible refine gate_dst (N := 1) rfl ?_); refine box_event ?hg (N := 1) ?hd (cs := #[.int .i64 a0_0, .slice A0_1 l0_1.length c0_1]) (t := 24) ?hr ?_; (case hd => rfl); (case hg => rfl); (case hr => first | (go_simp; done) | (go_simp; rfl)); intro gb461 hg w6 hbox hb; have n0_ := ak (below_step lb hb); have n1_ := ak (hbox); have n2_ := ak ((by rw [hg]; exact (below_size lb) : w.heap.size ≤ gb461)); have n3_ := ak ((by rw [hg]; exact (below_size lb) : w.heap.size ≤ gb461)); clear HB; have HB := n0_; have BK461 := n1_; have GW461 := n2_; have GE461 := n3_; clear n0_ n1_ n2_ n3_; clear hb hbox hg; have hcz7_0 : w6.cell? ⟨gb461, 0, none⟩ = some (.int .i64 a0_0) := (blk_cell BK461.out 0).trans rfl; have hcz7_1 : w6.cell? ⟨gb461, 1, none⟩ = some (.slice A0_1 l0_1.length c0_1) := (blk_cell BK461.out 1).trans rfl; have hfz7_0 := blk_frozen BK461.out 0; have hfz7_1 := blk_frozen BK461.out 1) | ((with_reducible refine gate_callee (f := 34) rfl ?_); refine goesL_ (some 13) rfl rfl Try.func34 (by kernel_rfl) rfl #[.agg #[.int .i64 a0_0, .slice A0_1 l0_1.length c0_1]] rfl (by (try simp only [List.map_toArray, List.map_cons, List.map_nil]); first | done | rfl | (simp only [List.length_drop, List.length_take]; rfl)) ?_; (with_reducible refine (compassref03_Check.calls k a0_0 _ _ l0_1 t462 t463 _ ?side1 ?side2 A2.out).mono ?_); (case side1 => repeat (first | exact (Kd.C_below HR0_1.out HB.out) | (with_reducible refine Kd.C_alloc ?_ _) | (with_reducible refine Kd.C_drewN ?_ _) | (with_reducible refine Kd.C_drew ?_))); (case side2 => exact HC0_1.out); rintro e w8 ⟨rfl, hb⟩; refine ⟨_, rfl, ?_⟩; have n0_ := ak (blk_below (bx BK461.out) hb); have n1_ := ak (below_step lb hb); clear BK461; clear HB; have BK461 := n0_; have HB := n1_; clear n0_ n1_; (try clear hb); (try clear hb2); (try clear hk); (try clear hi); have hcz9_0 : w8.cell? ⟨gb461, 0, none⟩ = some (.int .i64 a0_0) := (blk_cell BK461.out 0).trans rfl; have hcz9_1 : w8.cell? ⟨gb461, 1, none⟩ = some (.slice A0_1 l0_1.length c0_1) := (blk_cell BK461.out 1).trans rfl; have hfz9_0 := blk_frozen BK461.out 0; have hfz9_1 := blk_frozen BK461.out 1) | ((with_reducible refine gate_dst (N := 21) rfl ?_); refine Kd.S_make (Kd.slice 3 (Kd.int .i64)) _ 26 rfl (N := 21) rfl 52 _ _ rfl a0_0 rfl rfl Try.underlying52 (.slice none 0 0) 24 info26 rfl (by decide) (by omega) [] (ok := fun _ => True) (okp := fun _ => True) ⟨_, rfl, Kd.R_nil _ _ _ _ _⟩ (fun _ hk => hk) trivial (oda) (Nat.le_trans (Nat.mul_le_mul_right _ (oda : a0_0.toNat ≤ 11728124029610)) (by omega)) (Below.refl _ _) (Nat.le_refl _) ?_; intro v465 w10 ho11 hb hg_ hnew_; clear hg_ hnew_; (first | rw [← Ny464.out] at ho11 | (simp only [Int.reduceToNat] at ho11; rw [← Ny464.out] at ho11)); have n0_ := ak (Kd.S_lower ho11 (below_size lb)); have n1_ := ak (blk_below (bx BK461.out) hb); have n2_ := ak (below_step lb hb); clear BK461; clear HB; have HO466 := n0_; have BK461 := n1_; have HB := n2_; clear n0_ n1_ n2_; clear hb ho11))
  go_loopg [7] k (fun kq v7 w' => ∃ (x6_1 : List (List Int)) (x7_1 : Int), v7 = .int .i64 x7_1 ∧ Aside0 (compassref04_Strong.l0 kq x6_1 x7_1 a0_0 l0_1 = some (r1, r2)) ∧ Aside0 (kq ≤ k) ∧ Aside0 (Kd.S (Kd.slice 3 (Kd.int .i64)) 26 w' w.heap.size (fun _ => True) v465 x6_1) ∧ Aside0 (w'.heap[gb461]? = some (.cells #[.int .i64 a0_0, (.slice A0_1 l0_1.length c0_1)] 24 (0, 0))) ∧ Aside0 (Below w.heap.size w w'))
  case atStart => exact ⟨(y464), (0), (by first | rfl | (simp [*]; done)), H', ⟨Nat.le_refl _⟩, ⟨sx HO466.out⟩, ⟨bx BK461.out⟩, ⟨lb⟩⟩
  case round =>
   clear H'
   try clear c2; try clear p2; try clear c3; try clear c3b0; try clear c3b1; try clear c4; try clear c4b0; try clear c4b1; try clear c5; try clear c5b0; try clear c5b1; try clear hcz7_0; try clear hcz7_1; try clear hcz9_0; try clear hcz9_1; try clear hfz7_0; try clear hfz7_1; try clear hfz9_0; try clear hfz9_1
   obtain ⟨x6_1, x7_1, rfl, HA, HK1, HO_6, BK461, HB⟩ := hrel
   cases gk with
   | zero => exact absurd HA.out (by simp [compassref04_Strong.l0])
   | succ k1 =>
    have H := HA.out
    clear HA
    simp only [compassref04_Strong.l0] at H
    by_cases c12 : x7_1 < a0_0
    ·
     rw [if_pos c12] at H
     have c12b0 : decide (x7_1 < a0_0) = true := decide_eq_true c12
     clear c12
     replace H := Option.bind_eq_some_iff.mp H
     obtain ⟨⟨t467, t470⟩, A130, H⟩ := H
     replace H : (if 0 ≤ x7_1 then (if x7_1 < (x6_1.length : Int) then (compassref04_Strong.l0 k1 (x6_1.set (x7_1 : Int).toNat t467) (wrap64 (x7_1 + 1)) a0_0 l0_1) else (none)) else (none)) = some (r1, r2) := H
     have A13 := ak A130
     clear A130
     by_cases c14 : 0 ≤ x7_1
     rotate_left
     ·
      rw [if_neg c14] at H
      exact absurd H (by simp)
     rw [if_pos c14] at H
     have c14b0 : decide (0 ≤ x7_1) = true := decide_eq_true c14
     clear c14
     by_cases c15 : x7_1 < (x6_1.length : Int)
     rotate_left
     ·
      rw [if_neg c15] at H
      exact absurd H (by simp)
     rw [if_pos c15] at H
     have c15b0 : decide (x7_1 < (x6_1.length : Int)) = true := decide_eq_true c15
     clear c15
     obtain ⟨y471, hy471⟩ : ∃ y_ : List (List Int), y_ = (x6_1.set (x7_1 : Int).toNat t467) := ⟨_, rfl⟩
     replace H : (compassref04_Strong.l0 k1 y471 (wrap64 (x7_1 + 1)) a0_0 l0_1) = some (r1, r2) := by first | (rw [hy471]; exact H) | exact H
     have Ny471 := ak hy471
     clear hy471
     have H' := ak H
     clear H
     have hcz17_0 : wr.cell? ⟨gb461, 0, none⟩ = some (.int .i64 a0_0) := (blk_cell BK461.out 0).trans rfl
     have hcz17_1 : wr.cell? ⟨gb461, 1, none⟩ = some (.slice A0_1 l0_1.length c0_1) := (blk_cell BK461.out 1).trans rfl
     have hfz17_0 := blk_frozen BK461.out 0
     have hfz17_1 := blk_frozen BK461.out 1
     go_wp2_with (first | ((with_reducible refine gate_callee (f := 14) rfl ?_); refine goesL_ (some 33) rfl rfl Try.func14 (by kernel_rfl) rfl #[.agg #[.int .i64 a0_0, .slice A0_1 l0_1.length c0_1], .int .i64 x7_1] rfl (by (try simp only [List.map_toArray, List.map_cons, List.map_nil]); first | done | rfl | (simp only [List.length_drop, List.length_take]; rfl)) ?_; (with_reducible refine (compassref04_Levels.calls k1 a0_0 _ _ l0_1 x7_1 t467 t470 _ ?side1 ?side2 A13.out).mono ?_); (case side1 => repeat (first | exact (Kd.C_below HR0_1.out HB.out) | (with_reducible refine Kd.C_alloc ?_ _) | (with_reducible refine Kd.C_drewN ?_ _) | (with_reducible refine Kd.C_drew ?_))); (case side2 => exact HC0_1.out); rintro e w18 ⟨v468, rfl, ho0, hb⟩; obtain ⟨Ao468, co468, rfl⟩ := Kd.R_slice ho0; refine ⟨_, rfl, ?_⟩; have n0_ := ak (Kd.S_elder' (sx HO_6.out) (Kd.R_base ho0) hb); have n1_ := ak (Kd.R_lower ho0 (below_size lb)); have n2_ := ak (blk_below (bx BK461.out) hb); have n3_ := ak (below_step lb hb); clear HO_6; clear BK461; clear HB; have HO_6 := n0_; have HO469 := n1_; have BK461 := n2_; have HB := n3_; clear n0_ n1_ n2_ n3_; (try clear hb); (try clear hb2); (try clear hk); (try clear hi); (try clear ho0); have p16 : 0 ≤ (x7_1 : Int) := oda; have q16 : (x7_1 : Int) < ((x6_1.length : Int) : Int) := oda; obtain ⟨go16, co16, eo16, gb16, gl16, cl16, HG16⟩ := Kd.S_form HO_6.out (by omega); (first | cases eo16 | (injection eo16 with ea_ en_ ec_; (first | subst ea_ | (injection ea_ with ea_; subst ea_)); subst ec_; clear en_)); have GB16 := ak gb16; have GG16 := ak HG16; clear gb16 gl16 HG16; obtain ⟨_, ce16, hcl16, hM16, hcc16, hfr16, _, _⟩ := Kd.S_elem HO_6.out [] (x7_1 : Int) p16 q16; obtain ⟨ve16_0, rfl, ge16_0⟩ := hM16; have hx16_0 := hcc16 0 _ rfl; have hf16_0 := hfr16 0; (try simp only [show ((Kd.slice 3 (Kd.int .i64))).sz = 1 from rfl, Nat.mul_one, Nat.add_zero] at hx16_0); (try simp only [show ((Kd.slice 3 (Kd.int .i64))).sz = 1 from rfl, Nat.mul_one, Nat.add_zero] at hf16_0); clear hcl16 hcc16 hfr16; replace p16 := eq_true p16; replace q16 := eq_true q16; have n_ := ak (Kd.S_mono (ok' := (fun k_ => some k_ ≠ (.slice Ao468 t467.length co468 : Value).ownBlock)) HO_6.out (fun k_ hk => hk.2)); clear HO_6; have HO_6 := n_; clear n_; have HX19 := ak (show Kd.S (Kd.slice 3 (Kd.int .i64)) 26 w18 w.heap.size (fun k_ => ((fun _ => True)) k_ ∧ ¬ ((fun k_ => some k_ = (.slice Ao468 t467.length co468 : Value).ownBlock)) k_) (.slice (some ⟨go16, 0, none⟩) x6_1.length co16) x6_1 from (by exact sx (Kd.S_mono HO_6.out (fun k_ hk => ⟨trivial, fun e_ => hk e_⟩)))); obtain ⟨oki19, ce19, hcl19, hM19, hcc19, hfr19, hoki19, hH19⟩ := Kd.S_elem HX19.out [] (x7_1 : Int) (oda) (by have h_ : (x7_1 : Int) < ((x6_1.length : Int) : Int) := oda; first | exact h_ | (have e_ := (Kd.S_reads' HO_6.out).1; omega) | simpa using h_); obtain ⟨ve19_0, rfl, ge19_0⟩ := hM19; have HP19 := Kd.S_seg hH19 (oda) (by have h_ : (x7_1 : Int) < ((x6_1.length : Int) : Int) := oda; first | exact h_ | (have e_ := (Kd.S_reads' HO_6.out).1; omega) | simpa using h_) (seg := [(.slice Ao468 t467.length co468 : Value)]) (j := 0) (show 1 ≤ 1 from by decide) (x' := t467) (Kd.M_row (Kd.R_mono (Kd.R_tight rfl (Kd.R_mono (ok' := fun k_ => ((fun _ => True)) k_ ∧ k_ ≠ go16) (Kd.R_apart' (HO469.out) (Kd.S_typed HO_6.out) (by decide)) (fun k_ hk => ⟨trivial, fun e_ => (hk.2) (by rw [e_]; rfl)⟩))) (fun _ h_ => Or.inr (h_)))) (fun _ hk => hk) (fun k_ hk_ => ((Kd.R_mono (ok' := fun k_ => ((fun _ => True)) k_ ∧ k_ ≠ go16) (Kd.R_apart' (HO469.out) (Kd.S_typed HO_6.out) (by decide)) (fun k_ hk => ⟨trivial, fun e_ => (hk.2) (by rw [e_]; rfl)⟩))).1 k_ hk_.symm); have hx19_0 := hcc19 0 _ rfl; (try simp only [show ((Kd.slice 3 (Kd.int .i64))).sz = 1 from rfl, Nat.mul_one, Nat.add_zero] at hx19_0); have hf19_0 := hfr19 0; (try simp only [show ((Kd.slice 3 (Kd.int .i64))).sz = 1 from rfl, Nat.mul_one, Nat.add_zero] at hf19_0); clear hcl19 hcc19 hfr19 hoki19 hH19; (try simp only [show ((Kd.slice 3 (Kd.int .i64))).sz = 1 from rfl, Nat.mul_one, Nat.add_zero] at HP19)) | ((with_reducible refine gate_store (t := 26) (p := 36) rfl ?_); refine store_event (t := 26) (p := 36) (v := ?vo_w20) (w1 := (w18.setCell ⟨go16, (x7_1 : Int).toNat, none⟩ ((.slice Ao468 t467.length co468 : Value)))) ?hg ?ho ?hn ?hr ?_; (case ho => rfl); (case hg => rfl); (case hn => rfl); (case hr => first | (go_simp; done) | (go_simp; rfl)); intro w20 hw; have hg : w18.grownBy w20 (some go16) := (by rw [hw]; exact HP19.2); have hp_ : Kd.S (Kd.slice 3 (Kd.int .i64)) 26 w20 w.heap.size (fun _ => True) (.slice (some ⟨go16, 0, none⟩) x6_1.length co16) y471 := (by rw [hw, Ny471.out]; exact HP19.1); clear HP19; have n0_ := ak (hp_); have n1_ := ak (blk_grown (bx BK461.out) hg (Kd.S_ne HO_6.out BK461.out (by decide))); have n2_ := ak ((by rw [hw]; exact below_set (HB.out) GB16.out : Below w.heap.size w w20)); clear HO_6; clear BK461; clear HB; clear HO469; have HO_6 := n0_; have BK461 := n1_; have HB := n2_; clear n0_ n1_ n2_; clear hg hw hp_))
     go_roundg k1
     case measure => have := HK1.out; omega
     case rel => exact ⟨(y471), (wrap64 (x7_1 + 1)), (by first | rfl | (simp [*]; done)), H', ⟨by have := HK1.out; omega⟩, ⟨sx HO_6.out⟩, ⟨bx BK461.out⟩, ⟨lb⟩⟩
    ·
     rw [if_neg c12] at H
     have c12b0 : decide (x7_1 < a0_0) = false := decide_eq_false c12
     clear c12
     by_cases c21 : 0 ≤ a0_0
     rotate_left
     ·
      rw [if_neg c21] at H
      exact absurd H (by simp)
     rw [if_pos c21] at H
     have c21b0 := eq_true c21
     have c21b1 : decide (0 ≤ a0_0) = true := decide_eq_true c21
     clear c21
     by_cases c22 : (a0_0 : Int).toNat ≤ 35184372088832
     rotate_left
     ·
      rw [if_neg c22] at H
      exact absurd H (by simp)
     rw [if_pos c22] at H
     have c22b0 := eq_true c22
     have c22b1 : decide ((a0_0 : Int).toNat ≤ 35184372088832) = true := decide_eq_true c22
     clear c22
     obtain ⟨y472, hy472⟩ : ∃ y_ : List Int, y_ = (List.replicate (a0_0 : Int).toNat 0) := ⟨_, rfl⟩
     replace H : (compassref04_Strong.l1 k1 x6_1 y472 0 a0_0 l0_1) = some (r1, r2) := by first | (rw [hy472]; exact H) | exact H
     have Ny472 := ak hy472
     clear hy472
     have H' := ak H
     clear H
     have hcz23_0 : wr.cell? ⟨gb461, 0, none⟩ = some (.int .i64 a0_0) := (blk_cell BK461.out 0).trans rfl
     have hcz23_1 : wr.cell? ⟨gb461, 1, none⟩ = some (.slice A0_1 l0_1.length c0_1) := (blk_cell BK461.out 1).trans rfl
     have hfz23_0 := blk_frozen BK461.out 0
     have hfz23_1 := blk_frozen BK461.out 1
     go_wp2_with (first | ((with_reducible refine gate_dst (N := 39) rfl ?_); refine Kd.R_make (Kd.int .i64) _ 3 rfl (N := 39) rfl 26 _ _ rfl a0_0 rfl rfl Try.underlying26 (.int .i64 0) 8 info3 rfl (by decide) (by omega) 0 (ok := fun _ => True) (okp := fun _ => True) rfl (fun _ hk => hk) trivial (oda) (Nat.le_trans (Nat.mul_le_mul_right _ (oda : a0_0.toNat ≤ 35184372088832)) (by omega)) (Below.refl _ _) (Nat.le_refl _) ?_; intro v473 w24 ho25 hb hg_ hnew_; clear hg_ hnew_; (first | rw [← Ny472.out] at ho25 | (simp only [Int.reduceToNat] at ho25; rw [← Ny472.out] at ho25)); have n0_ := ak (Kd.S_elder' (sx HO_6.out) (Kd.R_base ho25) hb); have n1_ := ak (Kd.R_lower ho25 (below_size lb)); have n2_ := ak (blk_below (bx BK461.out) hb); have n3_ := ak (below_step lb hb); clear HO_6; clear BK461; clear HB; have HO_6 := n0_; have HO474 := n1_; have BK461 := n2_; have HB := n3_; clear n0_ n1_ n2_ n3_; clear hb ho25))
     go_loopg [9] k1 (fun kq v9 w' => ∃ (x8_2 : List Int) (x9_2 : Int), v9 = .int .i64 x9_2 ∧ Aside0 (compassref04_Strong.l1 kq x6_1 x8_2 x9_2 a0_0 l0_1 = some (r1, r2)) ∧ Aside0 (kq ≤ k1) ∧ Aside0 (Kd.S (Kd.slice 3 (Kd.int .i64)) 26 w' w.heap.size (fun k_ => some k_ ≠ (v473 : Value).ownBlock) v465 x6_1) ∧ Aside0 (Kd.R (Kd.int .i64) 3 w' w.heap.size (fun _ => True) v473 x8_2) ∧ Aside0 (w'.heap[gb461]? = some (.cells #[.int .i64 a0_0, (.slice A0_1 l0_1.length c0_1)] 24 (0, 0))) ∧ Aside0 (Below w.heap.size w w'))
     case atStart => exact ⟨(y472), (0), (by first | rfl | (simp [*]; done)), H', ⟨Nat.le_refl _⟩, ⟨by exact sx (Kd.S_mono HO_6.out (fun _ hk => hk.2))⟩, ⟨rx HO474.out⟩, ⟨bx BK461.out⟩, ⟨lb⟩⟩
     case round =>
      clear H'
      try clear c1; try clear p1; try clear q1; try clear hx1; try clear hf1; try clear c2; try clear p2; try clear c3; try clear c3b0; try clear c3b1; try clear c4; try clear c4b0; try clear c4b1; try clear c5; try clear c5b0; try clear c5b1; try clear p6; try clear c12; try clear c12b0; try clear c14; try clear c14b0; try clear c15; try clear c15b0; try clear c16; try clear p16; try clear q16; try clear hx16; try clear hf16; try clear c19; try clear hx19; try clear hf19; try clear c21; try clear c21b0; try clear c21b1; try clear c22; try clear c22b0; try clear c22b1; try clear c25; try clear hcz17_0; try clear hcz17_1; try clear hcz23_0; try clear hcz23_1; try clear hcz7_0; try clear hcz7_1; try clear hcz9_0; try clear hcz9_1; try clear hfz17_0; try clear hfz17_1; try clear hfz23_0; try clear hfz23_1; try clear hfz7_0; try clear hfz7_1; try clear hfz9_0; try clear hfz9_1; try clear hx16_0; try clear hx19_0; try clear p16; try clear p2; try clear q16
      obtain ⟨x8_2, x9_2, rfl, HA, HK2, HO_6, HO_8, BK461, HB⟩ := hrel
      cases gk with
      | zero => exact absurd HA.out (by simp [compassref04_Strong.l1])
      | succ k2 =>
       have H := HA.out
       clear HA
       simp only [compassref04_Strong.l1] at H
       by_cases c26 : x9_2 < a0_0
       ·
        rw [if_pos c26] at H
        have c26b0 : decide (x9_2 < a0_0) = true := decide_eq_true c26
        clear c26
        by_cases c27 : 0 ≤ x9_2
        rotate_left
        ·
         rw [if_neg c27] at H
         exact absurd H (by simp)
        rw [if_pos c27] at H
        have c27b0 : decide (0 ≤ x9_2) = true := decide_eq_true c27
        clear c27
        by_cases c28 : x9_2 < (x8_2.length : Int)
        rotate_left
        ·
         rw [if_neg c28] at H
         exact absurd H (by simp)
        rw [if_pos c28] at H
        have c28b0 : decide (x9_2 < (x8_2.length : Int)) = true := decide_eq_true c28
        clear c28
        obtain ⟨y478, hy478⟩ : ∃ y_ : List Int, y_ = (x8_2.set (x9_2 : Int).toNat x9_2) := ⟨_, rfl⟩
        replace H : (compassref04_Strong.l2 k2 x6_1 y478 x9_2 (wrap64 (a0_0 - 1)) a0_0 l0_1) = some (r1, r2) := by first | (rw [hy478]; exact H) | exact H
        have Ny478 := ak hy478
        clear hy478
        have H' := ak H
        clear H
        have hcz30_0 : wr.cell? ⟨gb461, 0, none⟩ = some (.int .i64 a0_0) := (blk_cell BK461.out 0).trans rfl
        have hcz30_1 : wr.cell? ⟨gb461, 1, none⟩ = some (.slice A0_1 l0_1.length c0_1) := (blk_cell BK461.out 1).trans rfl
        have hfz30_0 := blk_frozen BK461.out 0
        have hfz30_1 := blk_frozen BK461.out 1
        have p29 : 0 ≤ (x9_2 : Int) := oda
        have q29 : (x9_2 : Int) < ((x8_2.length : Int) : Int) := oda
        obtain ⟨go29, co29, eo29, gb29, gl29, cl29, HG29⟩ := Kd.R_form HO_8.out (by omega)
        (first | cases eo29 | (injection eo29 with ea_ en_ ec_; (first | subst ea_ | (injection ea_ with ea_; subst ea_)); subst ec_; clear en_))
        have GB29 := ak gb29
        have GG29 := ak HG29
        clear gb29 gl29 HG29
        obtain ⟨hx29_0, hf29_0⟩ := Kd.R_celln 0 HO_8.out (x9_2 : Int) p29 q29
        replace p29 := eq_true p29
        replace q29 := eq_true q29
        have HP31 := Kd.R_putg HO_8.out (x9_2 : Int) x9_2
        go_wp2_with (first | ((with_reducible refine gate_store (t := 3) (p := 49) rfl ?_); refine store_event (t := 3) (p := 49) (v := ?vo_w32) (w1 := (wr.setCell ⟨go29, (x9_2 : Int).toNat, none⟩ (.int .i64 x9_2))) ?hg ?ho ?hn ?hr ?_; (case ho => rfl); (case hg => rfl); (case hn => rfl); (case hr => first | (go_simp; done) | (go_simp; rfl)); intro w32 hw; have hg : wr.grownBy w32 (some go29) := (by rw [hw]; exact HP31.2); have hp_ : Kd.R (Kd.int .i64) 3 w32 w.heap.size (fun _ => True) (.slice (some ⟨go29, 0, none⟩) x8_2.length co29) y478 := (by rw [hw, Ny478.out]; exact HP31.1); clear HP31; have n0_ := ak (Kd.S_after (v := (.slice (some ⟨go29, 0, none⟩) x8_2.length co29)) (v1 := (.slice (some ⟨go29, 0, none⟩) x8_2.length co29)) (ok := (fun _ => True)) (by exact sx (Kd.S_mono HO_6.out (fun _ hk => ⟨trivial, hk⟩))) hg (.inl rfl)); have n1_ := ak (hp_); have n2_ := ak (blk_grown (bx BK461.out) hg (Kd.R_ne HO_8.out BK461.out (by decide))); have n3_ := ak ((by rw [hw]; exact below_set (HB.out) GB29.out : Below w.heap.size w w32)); clear HO_6; clear HO_8; clear BK461; clear HB; have HO_6 := n0_; have HO_8 := n1_; have BK461 := n2_; have HB := n3_; clear n0_ n1_ n2_ n3_; clear hg hw hp_; have hcz33_0 : w32.cell? ⟨gb461, 0, none⟩ = some (.int .i64 a0_0) := (blk_cell BK461.out 0).trans rfl; have hcz33_1 : w32.cell? ⟨gb461, 1, none⟩ = some (.slice A0_1 l0_1.length c0_1) := (blk_cell BK461.out 1).trans rfl; have hfz33_0 := blk_frozen BK461.out 0; have hfz33_1 := blk_frozen BK461.out 1))
        go_loopg [10] k2 (fun kq v10 w' => ∃ (x8_3 : List Int) (x10_3 : Int), v10 = .int .i64 x10_3 ∧ Aside0 (compassref04_Strong.l2 kq x6_1 x8_3 x9_2 x10_3 a0_0 l0_1 = some (r1, r2)) ∧ Aside0 (kq ≤ k2) ∧ Aside0 (Kd.S (Kd.slice 3 (Kd.int .i64)) 26 w' w.heap.size (fun k_ => some k_ ≠ ((.slice (some ⟨go29, 0, none⟩) x8_2.length co29) : Value).ownBlock) v465 x6_1) ∧ Aside0 (Kd.R (Kd.int .i64) 3 w' w.heap.size (fun _ => True) (.slice (some ⟨go29, 0, none⟩) x8_2.length co29) x8_3) ∧ Aside0 (w'.heap[gb461]? = some (.cells #[.int .i64 a0_0, (.slice A0_1 l0_1.length c0_1)] 24 (0, 0))) ∧ Aside0 (Below w.heap.size w w'))
        case atStart => exact ⟨(y478), (wrap64 (a0_0 - 1)), (by first | rfl | (simp [*]; done)), H', ⟨Nat.le_refl _⟩, ⟨by exact sx (Kd.S_mono HO_6.out (fun _ hk => hk.2))⟩, ⟨rx HO_8.out⟩, ⟨bx BK461.out⟩, ⟨lb⟩⟩
        case round =>
         clear H'
         try clear c1; try clear p1; try clear q1; try clear hx1; try clear hf1; try clear c2; try clear p2; try clear q2; try clear hx2; try clear hf2; try clear c3; try clear c3b0; try clear c3b1; try clear c4; try clear c4b0; try clear c4b1; try clear c5; try clear c5b0; try clear c5b1; try clear p6; try clear c12; try clear c12b0; try clear c14; try clear c14b0; try clear c15; try clear c15b0; try clear c16; try clear p16; try clear q16; try clear hx16; try clear hf16; try clear c19; try clear hx19; try clear hf19; try clear c21; try clear c21b0; try clear c21b1; try clear c22; try clear c22b0; try clear c22b1; try clear c25; try clear c26; try clear c26b0; try clear c27; try clear c27b0; try clear c28; try clear c28b0; try clear p29; try clear q29; try clear hx29; try clear hf29; try clear hcz17_0; try clear hcz17_1; try clear hcz23_0; try clear hcz23_1; try clear hcz30_0; try clear hcz30_1; try clear hcz33_0; try clear hcz33_1; try clear hcz7_0; try clear hcz7_1; try clear hcz9_0; try clear hcz9_1; try clear hfz17_0; try clear hfz17_1; try clear hfz23_0; try clear hfz23_1; try clear hfz30_0; try clear hfz30_1; try clear hfz33_0; try clear hfz33_1; try clear hfz7_0; try clear hfz7_1; try clear hfz9_0; try clear hfz9_1; try clear hx16_0; try clear hx19_0; try clear hx29_0; try clear p1; try clear p16; try clear p2; try clear p29; try clear p6; try clear q1; try clear q16; try clear q29
         obtain ⟨x8_3, x10_3, rfl, HA, HK3, HO_6, HO_8, BK461, HB⟩ := hrel
         have hl8_3 := (Kd.R_reads' HO_8.out).1
         rw [hl8_3] at HO_8
         (try simp only [hl8_3])
         (try simp only [hl8_3] at BK461)
         (try simp only [hl8_3] at HO_6)
         cases gk with
         | zero => exact absurd HA.out (by simp [compassref04_Strong.l2])
         | succ k3 =>
          have H := HA.out
          clear HA
          simp only [compassref04_Strong.l2] at H
          by_cases c34 : x10_3 ≥ 0
          ·
           rw [if_pos c34] at H
           have c34b0 : decide (0 ≤ x10_3) = true := decide_eq_true c34
           clear c34
           by_cases c35 : 0 ≤ x10_3
           rotate_left
           ·
            rw [if_neg c35] at H
            exact absurd H (by simp)
           rw [if_pos c35] at H
           have c35b0 : decide (0 ≤ x10_3) = true := decide_eq_true c35
           clear c35
           by_cases c36 : x10_3 < (x6_1.length : Int)
           rotate_left
           ·
            rw [if_neg c36] at H
            exact absurd H (by simp)
           rw [if_pos c36] at H
           have c36b0 : decide (x10_3 < (x6_1.length : Int)) = true := decide_eq_true c36
           clear c36
           by_cases c37 : 0 ≤ x9_2
           rotate_left
           ·
            rw [if_neg c37] at H
            exact absurd H (by simp)
           rw [if_pos c37] at H
           have c37b0 : decide (0 ≤ x9_2) = true := decide_eq_true c37
           clear c37
           by_cases c38 : x9_2 < ((rd_L2 x6_1 x10_3).length : Int)
           rotate_left
           ·
            rw [if_neg c38] at H
            exact absurd H (by simp)
           rw [if_pos c38] at H
           have c38b0 : decide (x9_2 < ((rd_L2 x6_1 x10_3).length : Int)) = true := decide_eq_true c38
           clear c38
           by_cases c39 : (rd (rd_L2 x6_1 x10_3) x9_2) ≥ 0
           ·
            rw [if_pos c39] at H
            have c39b0 : decide (0 ≤ (rd (rd_L2 x6_1 x10_3) x9_2)) = true := decide_eq_true c39
            clear c39
            by_cases c40 : x9_2 < (x6_1.length : Int)
            rotate_left
            ·
             rw [if_neg c40] at H
             exact absurd H (by simp)
            rw [if_pos c40] at H
            have c40b0 : decide (x9_2 < (x6_1.length : Int)) = true := decide_eq_true c40
            clear c40
            by_cases c41 : x10_3 < ((rd_L2 x6_1 x9_2).length : Int)
            rotate_left
            ·
             rw [if_neg c41] at H
             exact absurd H (by simp)
            rw [if_pos c41] at H
            have c41b0 : decide (x10_3 < ((rd_L2 x6_1 x9_2).length : Int)) = true := decide_eq_true c41
            clear c41
            by_cases c42 : (rd (rd_L2 x6_1 x9_2) x10_3) ≥ 0
            ·
             rw [if_pos c42] at H
             have c42b0 : decide (0 ≤ (rd (rd_L2 x6_1 x9_2) x10_3)) = true := decide_eq_true c42
             clear c42
             by_cases c43 : x9_2 < (x8_3.length : Int)
             rotate_left
             ·
              rw [if_neg c43] at H
              exact absurd H (by simp)
             rw [if_pos c43] at H
             have c43b0 : decide (x9_2 < (x8_3.length : Int)) = true := decide_eq_true c43
             clear c43
             by_cases c44 : x10_3 < (rd x8_3 x9_2)
             ·
              rw [if_pos c44] at H
              have c44b0 : decide (x10_3 < (rd x8_3 x9_2)) = true := decide_eq_true c44
              clear c44
              obtain ⟨y484, hy484⟩ : ∃ y_ : List Int, y_ = (x8_3.set (x9_2 : Int).toNat x10_3) := ⟨_, rfl⟩
              replace H : (compassref04_Strong.l2 k3 x6_1 y484 x9_2 (wrap64 (x10_3 - 1)) a0_0 l0_1) = some (r1, r2) := by first | (rw [hy484]; exact H) | exact H
              have Ny484 := ak hy484
              clear hy484
              have H' := ak H
              clear H
              obtain ⟨Ao46, co46, eo46⟩ := Kd.S_slice HO_6.out
              subst eo46
              have p479 : 0 ≤ (x10_3 : Int) := oda
              have q479 : x10_3 < (x6_1.length : Int) := oda
              obtain ⟨ad479, A479_0, c479_0, e479, hx479_0, hl479_0, hi479_0⟩ := at_L2 (Kd.S_reads' HO_6.out).2.2 x10_3 p479 q479
              cases e479
              obtain ⟨ce479, hce479, hMe479, hcc479⟩ := Kd.S_get HO_6.out [] x10_3 p479 (by first | exact q479 | exact oda | (have e_ := (Kd.S_reads' HO_6.out).1; omega))
              obtain ⟨ve479_0, rfl, ge479_0⟩ := hMe479
              have hv479_0 := hcc479 0 _ rfl
              rw [Nat.add_zero, show ((Kd.slice 3 (Kd.int .i64))).sz = 1 from rfl, Nat.mul_one] at hv479_0
              replace hv479_0 := Option.some.inj (hv479_0.symm.trans hx479_0)
              rw [hv479_0] at ge479_0
              have HL479_0 := ak (show Kd.R (Kd.int .i64) 3 _ _ _ _ (rd_L2 x6_1 x10_3) from ge479_0)
              clear hv479_0 ge479_0
              clear hcc479 hce479
              have HR479_0 := ak hi479_0
              have HC479_0 := ak hl479_0
              clear hi479_0 hl479_0
              replace p479 := eq_true p479
              replace q479 := eq_true q479
              have p480 : 0 ≤ (x9_2 : Int) := oda
              have q480 : x9_2 < ((rd_L2 x6_1 x10_3).length : Int) := oda
              obtain ⟨ad480, e480, hx480_0⟩ := Kd.at_int (by repeat (first | (with_reducible exact HR479_0.out) | (with_reducible refine Kd.C_alloc ?_ _) | (with_reducible refine Kd.C_drewN ?_ _) | (with_reducible refine Kd.C_drew ?_) | exact HR479_0.out)) x9_2 p480 q480
              cases e480
              replace p480 := eq_true p480
              replace q480 := eq_true q480
              have p481 : 0 ≤ (x9_2 : Int) := oda
              have q481 : x9_2 < (x6_1.length : Int) := oda
              obtain ⟨ad481, A481_0, c481_0, e481, hx481_0, hl481_0, hi481_0⟩ := at_L2 (Kd.S_reads' HO_6.out).2.2 x9_2 p481 q481
              obtain rfl : ad479 = ad481 := (by injection e481)
              obtain ⟨ce481, hce481, hMe481, hcc481⟩ := Kd.S_get HO_6.out [] x9_2 p481 (by first | exact q481 | exact oda | (have e_ := (Kd.S_reads' HO_6.out).1; omega))
              obtain ⟨ve481_0, rfl, ge481_0⟩ := hMe481
              have hv481_0 := hcc481 0 _ rfl
              rw [Nat.add_zero, show ((Kd.slice 3 (Kd.int .i64))).sz = 1 from rfl, Nat.mul_one] at hv481_0
              replace hv481_0 := Option.some.inj (hv481_0.symm.trans hx481_0)
              rw [hv481_0] at ge481_0
              have HL481_0 := ak (show Kd.R (Kd.int .i64) 3 _ _ _ _ (rd_L2 x6_1 x9_2) from ge481_0)
              clear hv481_0 ge481_0
              clear hcc481 hce481
              have HR481_0 := ak hi481_0
              have HC481_0 := ak hl481_0
              clear hi481_0 hl481_0
              replace p481 := eq_true p481
              replace q481 := eq_true q481
              have p482 : 0 ≤ (x10_3 : Int) := oda
              have q482 : x10_3 < ((rd_L2 x6_1 x9_2).length : Int) := oda
              obtain ⟨ad482, e482, hx482_0⟩ := Kd.at_int (by repeat (first | (with_reducible exact HR481_0.out) | (with_reducible refine Kd.C_alloc ?_ _) | (with_reducible refine Kd.C_drewN ?_ _) | (with_reducible refine Kd.C_drew ?_) | exact HR481_0.out)) x10_3 p482 q482
              cases e482
              replace p482 := eq_true p482
              replace q482 := eq_true q482
              have p483 : 0 ≤ (x9_2 : Int) := oda
              have q483 : x9_2 < (x8_3.length : Int) := oda
              obtain ⟨ad483, e483, hx483_0⟩ := Kd.at_int (Kd.R_reads' HO_8.out).2.2 x9_2 p483 q483
              obtain rfl : (⟨go29, 0, none⟩ : Addr) = ad483 := (by injection e483)
              (first | simp only [add_plain] at hx483_0 | simp only [add_at] at hx483_0 | simp only [Addr.add, Nat.zero_add] at hx483_0 | skip)
              replace p483 := eq_true p483
              replace q483 := eq_true q483
              have p45 : 0 ≤ (x9_2 : Int) := oda
              have q45 : (x9_2 : Int) < ((x8_3.length : Int) : Int) := oda
              obtain ⟨hx45_0, hf45_0⟩ := Kd.R_celln 0 HO_8.out (x9_2 : Int) p45 q45
              replace p45 := eq_true p45
              replace q45 := eq_true q45
              have HP47 := Kd.R_putg HO_8.out (x9_2 : Int) x10_3
              go_wp2_with (first | ((with_reducible refine gate_store (t := 3) (p := 86) rfl ?_); refine store_event (t := 3) (p := 86) (v := ?vo_w48) (w1 := (wr.setCell ⟨go29, (x9_2 : Int).toNat, none⟩ (.int .i64 x10_3))) ?hg ?ho ?hn ?hr ?_; (case ho => rfl); (case hg => rfl); (case hn => rfl); (case hr => first | (go_simp; done) | (go_simp; rfl)); intro w48 hw; have hg : wr.grownBy w48 (some go29) := (by rw [hw]; exact HP47.2); have hp_ : Kd.R (Kd.int .i64) 3 w48 w.heap.size (fun _ => True) (.slice (some ⟨go29, 0, none⟩) x8_3.length co29) y484 := (by rw [hw, Ny484.out]; exact HP47.1); clear HP47; have n0_ := ak (Kd.S_after (v := (.slice (some ⟨go29, 0, none⟩) x8_3.length co29)) (v1 := (.slice (some ⟨go29, 0, none⟩) x8_3.length co29)) (ok := (fun _ => True)) (by exact sx (Kd.S_mono HO_6.out (fun _ hk => ⟨trivial, hk⟩))) hg (.inl rfl)); have n1_ := ak (hp_); have n2_ := ak (blk_grown (bx BK461.out) hg (Kd.R_ne HO_8.out BK461.out (by decide))); have n3_ := ak (Kd.R_after (v := (.slice (some ⟨go29, 0, none⟩) x8_3.length co29)) (v1 := (.slice (some ⟨go29, 0, none⟩) x8_3.length co29)) (ok := (fun k_ => some k_ ≠ (.slice (some ad479) x6_1.length co46 : Value).ownBlock)) (by exact rx (Kd.R_mono HL479_0.out (fun _ hk => ⟨hk.2, hk.1⟩))) hg (.inl rfl)); have n4_ := ak (Kd.R_after (v := (.slice (some ⟨go29, 0, none⟩) x8_3.length co29)) (v1 := (.slice (some ⟨go29, 0, none⟩) x8_3.length co29)) (ok := (fun k_ => some k_ ≠ (.slice (some ad479) x6_1.length co46 : Value).ownBlock)) (by exact rx (Kd.R_mono HL481_0.out (fun _ hk => ⟨hk.2, hk.1⟩))) hg (.inl rfl)); have n5_ := ak ((by rw [hw]; exact below_set (HB.out) GB29.out : Below w.heap.size w w48)); clear HO_6; clear HO_8; clear BK461; clear HL479_0; clear HL481_0; clear HB; have HO_6 := n0_; have HO_8 := n1_; have BK461 := n2_; have HL479_0 := n3_; have HL481_0 := n4_; have HB := n5_; clear n0_ n1_ n2_ n3_ n4_ n5_; clear hg hw hp_))
              (try simp only [← hl8_3])
              go_roundg k3
              case measure => have := HK1.out; have := HK2.out; have := HK3.out; omega
              case rel => exact ⟨(y484), (wrap64 (x10_3 - 1)), (by first | rfl | (simp [*]; done)), H', ⟨by have := HK1.out; have := HK2.out; have := HK3.out; omega⟩, ⟨by (try simp only [hl8_3]); exact sx (Kd.S_mono HO_6.out (fun _ hk => hk.2))⟩, ⟨by (try simp only [hl8_3]); exact rx HO_8.out⟩, ⟨by (try simp only [hl8_3]); exact bx BK461.out⟩, ⟨lb⟩⟩
             ·
              rw [if_neg c44] at H
              have c44b0 : decide (x10_3 < (rd x8_3 x9_2)) = false := decide_eq_false c44
              clear c44
              have H' := ak H
              clear H
              obtain ⟨Ao49, co49, eo49⟩ := Kd.S_slice HO_6.out
              subst eo49
              have p479 : 0 ≤ (x10_3 : Int) := oda
              have q479 : x10_3 < (x6_1.length : Int) := oda
              obtain ⟨ad479, A479_0, c479_0, e479, hx479_0, hl479_0, hi479_0⟩ := at_L2 (Kd.S_reads' HO_6.out).2.2 x10_3 p479 q479
              cases e479
              obtain ⟨ce479, hce479, hMe479, hcc479⟩ := Kd.S_get HO_6.out [] x10_3 p479 (by first | exact q479 | exact oda | (have e_ := (Kd.S_reads' HO_6.out).1; omega))
              obtain ⟨ve479_0, rfl, ge479_0⟩ := hMe479
              have hv479_0 := hcc479 0 _ rfl
              rw [Nat.add_zero, show ((Kd.slice 3 (Kd.int .i64))).sz = 1 from rfl, Nat.mul_one] at hv479_0
              replace hv479_0 := Option.some.inj (hv479_0.symm.trans hx479_0)
              rw [hv479_0] at ge479_0
              have HL479_0 := ak (show Kd.R (Kd.int .i64) 3 _ _ _ _ (rd_L2 x6_1 x10_3) from ge479_0)
              clear hv479_0 ge479_0
              clear hcc479 hce479
              have HR479_0 := ak hi479_0
              have HC479_0 := ak hl479_0
              clear hi479_0 hl479_0
              replace p479 := eq_true p479
              replace q479 := eq_true q479
              have p480 : 0 ≤ (x9_2 : Int) := oda
              have q480 : x9_2 < ((rd_L2 x6_1 x10_3).length : Int) := oda
              obtain ⟨ad480, e480, hx480_0⟩ := Kd.at_int (by repeat (first | (with_reducible exact HR479_0.out) | (with_reducible refine Kd.C_alloc ?_ _) | (with_reducible refine Kd.C_drewN ?_ _) | (with_reducible refine Kd.C_drew ?_) | exact HR479_0.out)) x9_2 p480 q480
              cases e480
              replace p480 := eq_true p480
              replace q480 := eq_true q480
              have p481 : 0 ≤ (x9_2 : Int) := oda
              have q481 : x9_2 < (x6_1.length : Int) := oda
              obtain ⟨ad481, A481_0, c481_0, e481, hx481_0, hl481_0, hi481_0⟩ := at_L2 (Kd.S_reads' HO_6.out).2.2 x9_2 p481 q481
              obtain rfl : ad479 = ad481 := (by injection e481)
              obtain ⟨ce481, hce481, hMe481, hcc481⟩ := Kd.S_get HO_6.out [] x9_2 p481 (by first | exact q481 | exact oda | (have e_ := (Kd.S_reads' HO_6.out).1; omega))
              obtain ⟨ve481_0, rfl, ge481_0⟩ := hMe481
              have hv481_0 := hcc481 0 _ rfl
              rw [Nat.add_zero, show ((Kd.slice 3 (Kd.int .i64))).sz = 1 from rfl, Nat.mul_one] at hv481_0
              replace hv481_0 := Option.some.inj (hv481_0.symm.trans hx481_0)
              rw [hv481_0] at ge481_0
              have HL481_0 := ak (show Kd.R (Kd.int .i64) 3 _ _ _ _ (rd_L2 x6_1 x9_2) from ge481_0)
              clear hv481_0 ge481_0
              clear hcc481 hce481
              have HR481_0 := ak hi481_0
              have HC481_0 := ak hl481_0
              clear hi481_0 hl481_0
              replace p481 := eq_true p481
              replace q481 := eq_true q481
              have p482 : 0 ≤ (x10_3 : Int) := oda
              have q482 : x10_3 < ((rd_L2 x6_1 x9_2).length : Int) := oda
              obtain ⟨ad482, e482, hx482_0⟩ := Kd.at_int (by repeat (first | (with_reducible exact HR481_0.out) | (with_reducible refine Kd.C_alloc ?_ _) | (with_reducible refine Kd.C_drewN ?_ _) | (with_reducible refine Kd.C_drew ?_) | exact HR481_0.out)) x10_3 p482 q482
              cases e482
              replace p482 := eq_true p482
              replace q482 := eq_true q482
              have p483 : 0 ≤ (x9_2 : Int) := oda
              have q483 : x9_2 < (x8_3.length : Int) := oda
              obtain ⟨ad483, e483, hx483_0⟩ := Kd.at_int (Kd.R_reads' HO_8.out).2.2 x9_2 p483 q483
              obtain rfl : (⟨go29, 0, none⟩ : Addr) = ad483 := (by injection e483)
              (first | simp only [add_plain] at hx483_0 | simp only [add_at] at hx483_0 | simp only [Addr.add, Nat.zero_add] at hx483_0 | skip)
              replace p483 := eq_true p483
              replace q483 := eq_true q483
              go_wp2
              (try simp only [← hl8_3])
              go_roundg k3
              case measure => have := HK1.out; have := HK2.out; have := HK3.out; omega
              case rel => exact ⟨(x8_3), (wrap64 (x10_3 - 1)), (by first | rfl | (simp [*]; done)), H', ⟨by have := HK1.out; have := HK2.out; have := HK3.out; omega⟩, ⟨by (try simp only [hl8_3]); exact sx HO_6.out⟩, ⟨by (try simp only [hl8_3]); exact rx HO_8.out⟩, ⟨by (try simp only [hl8_3]); exact bx BK461.out⟩, ⟨lb⟩⟩
            ·
             rw [if_neg c42] at H
             have c42b0 : decide (0 ≤ (rd (rd_L2 x6_1 x9_2) x10_3)) = false := decide_eq_false c42
             clear c42
             have H' := ak H
             clear H
             obtain ⟨Ao50, co50, eo50⟩ := Kd.S_slice HO_6.out
             subst eo50
             have p479 : 0 ≤ (x10_3 : Int) := oda
             have q479 : x10_3 < (x6_1.length : Int) := oda
             obtain ⟨ad479, A479_0, c479_0, e479, hx479_0, hl479_0, hi479_0⟩ := at_L2 (Kd.S_reads' HO_6.out).2.2 x10_3 p479 q479
             cases e479
             obtain ⟨ce479, hce479, hMe479, hcc479⟩ := Kd.S_get HO_6.out [] x10_3 p479 (by first | exact q479 | exact oda | (have e_ := (Kd.S_reads' HO_6.out).1; omega))
             obtain ⟨ve479_0, rfl, ge479_0⟩ := hMe479
             have hv479_0 := hcc479 0 _ rfl
             rw [Nat.add_zero, show ((Kd.slice 3 (Kd.int .i64))).sz = 1 from rfl, Nat.mul_one] at hv479_0
             replace hv479_0 := Option.some.inj (hv479_0.symm.trans hx479_0)
             rw [hv479_0] at ge479_0
             have HL479_0 := ak (show Kd.R (Kd.int .i64) 3 _ _ _ _ (rd_L2 x6_1 x10_3) from ge479_0)
             clear hv479_0 ge479_0
             clear hcc479 hce479
             have HR479_0 := ak hi479_0
             have HC479_0 := ak hl479_0
             clear hi479_0 hl479_0
             replace p479 := eq_true p479
             replace q479 := eq_true q479
             have p480 : 0 ≤ (x9_2 : Int) := oda
             have q480 : x9_2 < ((rd_L2 x6_1 x10_3).length : Int) := oda
             obtain ⟨ad480, e480, hx480_0⟩ := Kd.at_int (by repeat (first | (with_reducible exact HR479_0.out) | (with_reducible refine Kd.C_alloc ?_ _) | (with_reducible refine Kd.C_drewN ?_ _) | (with_reducible refine Kd.C_drew ?_) | exact HR479_0.out)) x9_2 p480 q480
             cases e480
             replace p480 := eq_true p480
             replace q480 := eq_true q480
             have p481 : 0 ≤ (x9_2 : Int) := oda
             have q481 : x9_2 < (x6_1.length : Int) := oda
             obtain ⟨ad481, A481_0, c481_0, e481, hx481_0, hl481_0, hi481_0⟩ := at_L2 (Kd.S_reads' HO_6.out).2.2 x9_2 p481 q481
             obtain rfl : ad479 = ad481 := (by injection e481)
             obtain ⟨ce481, hce481, hMe481, hcc481⟩ := Kd.S_get HO_6.out [] x9_2 p481 (by first | exact q481 | exact oda | (have e_ := (Kd.S_reads' HO_6.out).1; omega))
             obtain ⟨ve481_0, rfl, ge481_0⟩ := hMe481
             have hv481_0 := hcc481 0 _ rfl
             rw [Nat.add_zero, show ((Kd.slice 3 (Kd.int .i64))).sz = 1 from rfl, Nat.mul_one] at hv481_0
             replace hv481_0 := Option.some.inj (hv481_0.symm.trans hx481_0)
             rw [hv481_0] at ge481_0
             have HL481_0 := ak (show Kd.R (Kd.int .i64) 3 _ _ _ _ (rd_L2 x6_1 x9_2) from ge481_0)
             clear hv481_0 ge481_0
             clear hcc481 hce481
             have HR481_0 := ak hi481_0
             have HC481_0 := ak hl481_0
             clear hi481_0 hl481_0
             replace p481 := eq_true p481
             replace q481 := eq_true q481
             have p482 : 0 ≤ (x10_3 : Int) := oda
             have q482 : x10_3 < ((rd_L2 x6_1 x9_2).length : Int) := oda
             obtain ⟨ad482, e482, hx482_0⟩ := Kd.at_int (by repeat (first | (with_reducible exact HR481_0.out) | (with_reducible refine Kd.C_alloc ?_ _) | (with_reducible refine Kd.C_drewN ?_ _) | (with_reducible refine Kd.C_drew ?_) | exact HR481_0.out)) x10_3 p482 q482
             cases e482
             replace p482 := eq_true p482
             replace q482 := eq_true q482
             go_wp2
             (try simp only [← hl8_3])
             go_roundg k3
             case measure => have := HK1.out; have := HK2.out; have := HK3.out; omega
             case rel => exact ⟨(x8_3), (wrap64 (x10_3 - 1)), (by first | rfl | (simp [*]; done)), H', ⟨by have := HK1.out; have := HK2.out; have := HK3.out; omega⟩, ⟨by (try simp only [hl8_3]); exact sx HO_6.out⟩, ⟨by (try simp only [hl8_3]); exact rx HO_8.out⟩, ⟨by (try simp only [hl8_3]); exact bx BK461.out⟩, ⟨lb⟩⟩
           ·
            rw [if_neg c39] at H
            have c39b0 : decide (0 ≤ (rd (rd_L2 x6_1 x10_3) x9_2)) = false := decide_eq_false c39
            clear c39
            have H' := ak H
            clear H
            obtain ⟨Ao51, co51, eo51⟩ := Kd.S_slice HO_6.out
            subst eo51
            have p479 : 0 ≤ (x10_3 : Int) := oda
            have q479 : x10_3 < (x6_1.length : Int) := oda
            obtain ⟨ad479, A479_0, c479_0, e479, hx479_0, hl479_0, hi479_0⟩ := at_L2 (Kd.S_reads' HO_6.out).2.2 x10_3 p479 q479
            cases e479
            obtain ⟨ce479, hce479, hMe479, hcc479⟩ := Kd.S_get HO_6.out [] x10_3 p479 (by first | exact q479 | exact oda | (have e_ := (Kd.S_reads' HO_6.out).1; omega))
            obtain ⟨ve479_0, rfl, ge479_0⟩ := hMe479
            have hv479_0 := hcc479 0 _ rfl
            rw [Nat.add_zero, show ((Kd.slice 3 (Kd.int .i64))).sz = 1 from rfl, Nat.mul_one] at hv479_0
            replace hv479_0 := Option.some.inj (hv479_0.symm.trans hx479_0)
            rw [hv479_0] at ge479_0
            have HL479_0 := ak (show Kd.R (Kd.int .i64) 3 _ _ _ _ (rd_L2 x6_1 x10_3) from ge479_0)
            clear hv479_0 ge479_0
            clear hcc479 hce479
            have HR479_0 := ak hi479_0
            have HC479_0 := ak hl479_0
            clear hi479_0 hl479_0
            replace p479 := eq_true p479
            replace q479 := eq_true q479
            have p480 : 0 ≤ (x9_2 : Int) := oda
            have q480 : x9_2 < ((rd_L2 x6_1 x10_3).length : Int) := oda
            obtain ⟨ad480, e480, hx480_0⟩ := Kd.at_int (by repeat (first | (with_reducible exact HR479_0.out) | (with_reducible refine Kd.C_alloc ?_ _) | (with_reducible refine Kd.C_drewN ?_ _) | (with_reducible refine Kd.C_drew ?_) | exact HR479_0.out)) x9_2 p480 q480
            cases e480
            replace p480 := eq_true p480
            replace q480 := eq_true q480
            go_wp2
            (try simp only [← hl8_3])
            go_roundg k3
            case measure => have := HK1.out; have := HK2.out; have := HK3.out; omega
            case rel => exact ⟨(x8_3), (wrap64 (x10_3 - 1)), (by first | rfl | (simp [*]; done)), H', ⟨by have := HK1.out; have := HK2.out; have := HK3.out; omega⟩, ⟨by (try simp only [hl8_3]); exact sx HO_6.out⟩, ⟨by (try simp only [hl8_3]); exact rx HO_8.out⟩, ⟨by (try simp only [hl8_3]); exact bx BK461.out⟩, ⟨lb⟩⟩
          ·
           rw [if_neg c34] at H
           have c34b0 : decide (0 ≤ x10_3) = false := decide_eq_false c34
           clear c34
           have H' := ak H
           clear H
           go_wp2
           (try simp only [← hl8_3])
           go_roundg k3
           case measure => have := HK1.out; have := HK2.out; have := HK3.out; omega
           case rel => exact ⟨(x8_3), (wrap64 (x9_2 + 1)), (by first | rfl | (simp [*]; done)), H', ⟨by have := HK1.out; have := HK2.out; have := HK3.out; omega⟩, ⟨by (try simp only [hl8_3]); exact sx HO_6.out⟩, ⟨by (try simp only [hl8_3]); exact rx HO_8.out⟩, ⟨by (try simp only [hl8_3]); exact bx BK461.out⟩, ⟨lb⟩⟩
       ·
        rw [if_neg c26] at H
        have c26b0 : decide (x9_2 < a0_0) = false := decide_eq_false c26
        clear c26
        replace H := Option.bind_eq_some_iff.mp H
        obtain ⟨t475, A520, H⟩ := H
        replace H : (some (t475, 0)) = some (r1, r2) := H
        have A52 := ak A520
        clear A520
        simp only [Option.some.injEq, Prod.mk.injEq] at H
        obtain ⟨rfl, rfl⟩ := H
        have hcz53_0 : wr.cell? ⟨gb461, 0, none⟩ = some (.int .i64 a0_0) := (blk_cell BK461.out 0).trans rfl
        have hcz53_1 : wr.cell? ⟨gb461, 1, none⟩ = some (.slice A0_1 l0_1.length c0_1) := (blk_cell BK461.out 1).trans rfl
        have hfz53_0 := blk_frozen BK461.out 0
        have hfz53_1 := blk_frozen BK461.out 1
        obtain ⟨Ao54, co54, eo54⟩ := Kd.R_slice HO_8.out
        subst eo54
        go_wp2_with (first | ((with_reducible refine gate_callee (f := 40) rfl ?_); refine goesL_ (some 88) rfl rfl Try.func40 (by kernel_rfl) rfl #[.slice Ao54 x8_2.length co54] rfl (by (try simp only [List.map_toArray, List.map_cons, List.map_nil]); first | done | rfl | (simp only [List.length_drop, List.length_take]; rfl)) ?_; (with_reducible refine (compassref04_Numbered.calls k2 _ _ x8_2 t475 _ ?side1 ?side2 A52.out).mono ?_); (case side1 => repeat (first | exact (Kd.R_reads' HO_8.out).2.2 | (with_reducible refine Kd.C_alloc ?_ _) | (with_reducible refine Kd.C_drewN ?_ _) | (with_reducible refine Kd.C_drew ?_))); (case side2 => exact (Kd.R_reads' HO_8.out).2.1); rintro e w55 ⟨v476, rfl, ho0, hb⟩; refine ⟨_, rfl, ?_⟩; have n0_ := ak (Kd.S_elder' (sx HO_6.out) (Kd.R_base ho0) hb); have n1_ := ak (Kd.R_elder' (rx HO_8.out) (Kd.R_base ho0) hb); have n2_ := ak (Kd.R_lower (Kd.R_new' ho0 (Kd.R_lt (rx HO_8.out))) (below_size lb)); have n3_ := ak (blk_below (bx BK461.out) hb); have n4_ := ak (below_step lb hb); clear HO_6; clear HO_8; clear BK461; clear HB; have HO_6 := n0_; have HO_8 := n1_; have HO477 := n2_; have BK461 := n3_; have HB := n4_; clear n0_ n1_ n2_ n3_ n4_; (try clear hb); (try clear hb2); (try clear hk); (try clear hi); (try clear ho0)))
        go_ret2
        exact ⟨_, by first | rfl | (simp [errW_none, errW_some] <;> rfl) | (simp [*, errW_none, errW_some] <;> rfl), by exact rx (Kd.R_mono HO477.out (fun _ hk => trivial)), lb⟩
 ·
  rw [if_neg c3] at H
  have c3b0 : (t462 == 0) = false := beq_eq_false_iff_ne.mpr c3
  have c3b1 : (t462 != 0) = true := bne_iff_ne.mpr c3
  simp only [Option.some.injEq, Prod.mk.injEq] at H
  obtain ⟨rfl, rfl⟩ := H
  go_enter Try.func25, Try.ntmps25
  go_wp2_with (first | ((with_reducible refine gate_dst (N := 1) rfl ?_); refine box_event ?hg (N := 1) ?hd (cs := #[.int .i64 a0_0, .slice A0_1 l0_1.length c0_1]) (t := 24) ?hr ?_; (case hd => rfl); (case hg => rfl); (case hr => first | (go_simp; done) | (go_simp; rfl)); intro gb461 hg w56 hbox hb; have n0_ := ak (below_step lb hb); have n1_ := ak (hbox); have n2_ := ak ((by rw [hg]; exact (below_size lb) : w.heap.size ≤ gb461)); have n3_ := ak ((by rw [hg]; exact (below_size lb) : w.heap.size ≤ gb461)); clear HB; have HB := n0_; have BK461 := n1_; have GW461 := n2_; have GE461 := n3_; clear n0_ n1_ n2_ n3_; clear hb hbox hg; have hcz57_0 : w56.cell? ⟨gb461, 0, none⟩ = some (.int .i64 a0_0) := (blk_cell BK461.out 0).trans rfl; have hcz57_1 : w56.cell? ⟨gb461, 1, none⟩ = some (.slice A0_1 l0_1.length c0_1) := (blk_cell BK461.out 1).trans rfl; have hfz57_0 := blk_frozen BK461.out 0; have hfz57_1 := blk_frozen BK461.out 1) | ((with_reducible refine gate_callee (f := 34) rfl ?_); refine goesL_ (some 13) rfl rfl Try.func34 (by kernel_rfl) rfl #[.agg #[.int .i64 a0_0, .slice A0_1 l0_1.length c0_1]] rfl (by (try simp only [List.map_toArray, List.map_cons, List.map_nil]); first | done | rfl | (simp only [List.length_drop, List.length_take]; rfl)) ?_; (with_reducible refine (compassref03_Check.calls k a0_0 _ _ l0_1 t462 t463 _ ?side1 ?side2 A2.out).mono ?_); (case side1 => repeat (first | exact (Kd.C_below HR0_1.out HB.out) | (with_reducible refine Kd.C_alloc ?_ _) | (with_reducible refine Kd.C_drewN ?_ _) | (with_reducible refine Kd.C_drew ?_))); (case side2 => exact HC0_1.out); rintro e w58 ⟨rfl, hb⟩; refine ⟨_, rfl, ?_⟩; have n0_ := ak (blk_below (bx BK461.out) hb); have n1_ := ak (below_step lb hb); clear BK461; clear HB; have BK461 := n0_; have HB := n1_; clear n0_ n1_; (try clear hb); (try clear hb2); (try clear hk); (try clear hi)))
  go_ret2
  exact ⟨_, by first | rfl | (simp [errW_none, errW_some] <;> rfl) | (simp [*, errW_none, errW_some] <;> rfl), by first | exact Kd.R_nil _ _ _ _ _ | exact Kd.N_nil _ _ _ _ _ | exact Kd.V_nil _ _ _ _ _ | exact Kd.Q_nil _ _ _ _ _ | exact Kd.S_nil _ _ _ _ _, lb⟩

end Go.Proofs.Ytacklfnnpiobgaa.Q
