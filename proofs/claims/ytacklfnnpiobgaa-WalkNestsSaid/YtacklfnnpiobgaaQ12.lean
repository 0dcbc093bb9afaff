-- PRINTED by print.py (a twelfth state) out of the translation. Not trusted: Lean checks it.
import Derived.Test.YtacklfnnpiobgaaQ0
namespace Go.Proofs.Ytacklfnnpiobgaa.Q
open Go.RowKit Go.Proofs.YtacklfnnpiobgaaW.PrintWords Go.Proofs.YtacklfnnpiobgaaW.PrintLast Go.Proofs.YtacklfnnpiobgaaW.PrintMore
attribute [local go_sem] max2_int min2_int max_two min_two max_three min_three max_four min_four   -- for this text's walks alone
set_option linter.unusedVariables false
set_option linter.unusedSimpArgs false

/-! ### compassref04_visit: function 37 -/
mutual
def compassref04_visit.l0 : Nat → Int → Int → Int → List (S41) → List Int → List Int → Int → Option (List Int × List Int × Int)
  | 0, _, _, _, _, _, _, _ => none
  | k + 1, x2, x7, x239000, x239001, x240000, x240001, x240002 => if x7 < (x239001.length : Int) then (if 0 ≤ x7 then (if ((rd_T41 x239001 x7).f0) = x2 then (if 0 ≤ ((rd_T41 x239001 x7).f1) then (if ((rd_T41 x239001 x7).f1) < (x240000.length : Int) then (if (rd x240000 ((rd_T41 x239001 x7).f1)) < 0 then ((compassref04_visit.f k x239000 x239001 x240000 x240001 x240002 ((rd_T41 x239001 x7).f1)).bind fun bt246 => (compassref04_visit.l0 k x2 (wrap64 (x7 + 1)) x239000 x239001 bt246.1 bt246.2.1 bt246.2.2)) else (compassref04_visit.l0 k x2 (wrap64 (x7 + 1)) x239000 x239001 x240000 x240001 x240002)) else (none)) else (none)) else (compassref04_visit.l0 k x2 (wrap64 (x7 + 1)) x239000 x239001 x240000 x240001 x240002)) else (none)) else (if 0 ≤ x2 then (if x2 < (x240001.length : Int) then (some (x240000, (x240001.set (x2 : Int).toNat x240002), wrap64 (x240002 + 1))) else (none)) else (none))
def compassref04_visit.f : Nat → Int → List (S41) → List Int → List Int → Int → Int → Option (List Int × List Int × Int)
  | 0, _, _, _, _, _, _ => none
  | k + 1, a0_0, l0_1, l1_0, l1_1, a1_2, a2 => if 0 ≤ a2 then (if a2 < (l1_0.length : Int) then (compassref04_visit.l0 k a2 0 a0_0 l0_1 (l1_0.set (a2 : Int).toNat a1_2) l1_1 (wrap64 (a1_2 + 1))) else (none)) else (none)
end
theorem compassref04_visit.mono_l : ∀ k, (∀ y0 y1 y2 y3 y4 y5, LeO (compassref04_visit.f k y0 y1 y2 y3 y4 y5) (compassref04_visit.f (k + 1) y0 y1 y2 y3 y4 y5)) ∧ (∀ y0 y1 y2 y3 y4 y5 y6, LeO (compassref04_visit.l0 k y0 y1 y2 y3 y4 y5 y6) (compassref04_visit.l0 (k + 1) y0 y1 y2 y3 y4 y5 y6))
  | 0 => ⟨fun _ _ _ _ _ _ r h => by simp [compassref04_visit.f] at h, fun _ _ _ _ _ _ _ r h => by simp [compassref04_visit.l0] at h⟩
  | k + 1 => by
    obtain ⟨ih0, ih1⟩ := compassref04_visit.mono_l k
    refine ⟨?_, ?_⟩
    · intro y0 y1 y2 y3 y4 y5
      unfold compassref04_visit.f
      repeat' first
      | (with_reducible exact ih0 _ _ _ _ _ _)
      | (with_reducible exact ih1 _ _ _ _ _ _ _)
      | (with_reducible exact LeO.refl _)
      | (with_reducible exact LeO.none _)
      | (with_reducible refine LeO.ite ?_ ?_)
      | (with_reducible refine LeO.bind ?_ (fun _ => ?_))
      | exact ih0 _ _ _ _ _ _
      | exact ih1 _ _ _ _ _ _ _
      | exact LeO.none _
      | refine LeO.ite ?_ ?_
      | refine LeO.bind ?_ (fun _ => ?_)
    · intro y0 y1 y2 y3 y4 y5 y6
      unfold compassref04_visit.l0
      repeat' first
      | (with_reducible exact ih0 _ _ _ _ _ _)
      | (with_reducible exact ih1 _ _ _ _ _ _ _)
      | (with_reducible exact LeO.refl _)
      | (with_reducible exact LeO.none _)
      | (with_reducible refine LeO.ite ?_ ?_)
      | (with_reducible refine LeO.bind ?_ (fun _ => ?_))
      | exact ih0 _ _ _ _ _ _
      | exact ih1 _ _ _ _ _ _ _
      | exact LeO.none _
      | refine LeO.ite ?_ ?_
      | refine LeO.bind ?_ (fun _ => ?_)
theorem compassref04_visit.mono : ∀ a0 a1 a2 a3 a4 a5 k, LeO (compassref04_visit.f k a0 a1 a2 a3 a4 a5) (compassref04_visit.f (k + 1) a0 a1 a2 a3 a4 a5) := by
  intro a0 a1 a2 a3 a4 a5 k
  obtain ⟨ih0, ih1⟩ := compassref04_visit.mono_l k
  exact ih0 a0 a1 a2 a3 a4 a5
def compassref04_visit.T6 : Bool × List (List Nat × List Nat) := (true, [([], []), ([0], [0]), ([], []), ([1, 2], [1, 2]), ([3], [3]), ([4], [4]), ([], []), ([5, 6], [5, 6]), ([7], [7]), ([8], [8]), ([9, 8], [8, 9]), ([8], [8]), ([11, 8], [8, 11]), ([8], [8]), ([12, 13, 8], [8, 12, 13]), ([14, 8], [8, 14]), ([15, 8], [8, 15]), ([10, 16, 8], [8, 10, 16]), ([17, 8], [8, 17]), ([18, 8], [8, 18]), ([8, 19], [8, 19])])
def compassref04_visit.B6 : List Nat := [0, 1, 0, 7, 15, 31, 0, 127, 255, 511, 1023, 511, 2559, 511, 14847, 31231, 63999, 131071, 262143, 524287, 1048575]
theorem compassref04_visit.tab6 : rtab .any (opsOf Try.f37 6) = compassref04_visit.T6 := by kernel_rfl
theorem compassref04_visit.bits6 : waitsOk compassref04_visit.T6.2 compassref04_visit.B6 = true := by kernel_rfl
def compassref04_visit.T7 : Bool × List (List Nat × List Nat) := (true, [([], []), ([], []), ([], []), ([2], [2]), ([], []), ([3, 4], [3, 4]), ([5], [5]), ([6], [6]), ([0, 1, 7], [0, 1, 7]), ([8, 8, 0, 1, 2, 3, 4, 5, 6, 7, 8], [8])])
def compassref04_visit.B7 : List Nat := [0, 0, 0, 4, 0, 28, 60, 124, 255, 511]
theorem compassref04_visit.tab7 : rtab .any (opsOf Try.f37 7) = compassref04_visit.T7 := by kernel_rfl
theorem compassref04_visit.bits7 : waitsOk compassref04_visit.T7.2 compassref04_visit.B7 = true := by kernel_rfl
set_option maxHeartbeats 8000000 in
set_option maxRecDepth 100000 in
theorem compassref04_visit.calls (k : Nat) : ∀ (a0_0 : Int) (A0_1 : Option Addr) (c0_1 : Nat) (l0_1 : List (S41)) (P1_0_ : Nat → Prop) (u9000_ : Value) (l1_0 : List Int) (P1_1_ : Nat → Prop) (u9001_ : Value) (l1_1 : List Int) (a1_2 : Int) (a2 : Int) (r1 : List Int) (r2 : List Int) (r3 : Int) (w0 w : World) (hB : Below w0.heap.size w0 w) (hr0_1 : ∀ W_, Kept w W_ (fun k_ => P1_0_ k_ ∨ P1_1_ k_) → Kd.C k41 W_ A0_1 l0_1.length l0_1) (hc0_1 : l0_1.length ≤ c0_1) (ho1_0 : Kd.R (Kd.int .i64) 3 w w0.heap.size P1_0_ u9000_ l1_0) (hp1_0_1_1 : ∀ k_, P1_0_ k_ → ¬ P1_1_ k_) (ho1_1 : Kd.R (Kd.int .i64) 3 w w0.heap.size P1_1_ u9001_ l1_1) (hp1_1_1_0 : ∀ k_, P1_1_ k_ → ¬ P1_0_ k_) (h : compassref04_visit.f k a0_0 l0_1 l1_0 l1_1 a1_2 a2 = some (r1, r2, r3)),
    Calls Try.prog 37 #[.agg #[.int .i64 a0_0, .slice A0_1 l0_1.length c0_1], .agg #[u9000_, u9001_, .int .i64 a1_2], .int .i64 a2] w fun e w' => ∃ v0_ v1_ : Value, e = .returned (.agg #[v0_, v1_, .int .i64 r3]) ∧ Kd.R (Kd.int .i64) 3 w' w0.heap.size (fun k_ => ((P1_0_ k_ ∨ P1_1_ k_) ∨ w.heap.size ≤ k_) ∧ some k_ ≠ (v1_ : Value).ownBlock) v0_ r1 ∧ Kd.R (Kd.int .i64) 3 w' w0.heap.size (fun k_ => ((P1_0_ k_ ∨ P1_1_ k_) ∨ w.heap.size ≤ k_) ∧ some k_ ≠ (v0_ : Value).ownBlock) v1_ r2 ∧ Below w0.heap.size w0 w' ∧ Kept w w' (fun k_ => P1_0_ k_ ∨ P1_1_ k_) := by
 induction k using Nat.strongRecOn with
 | _ k ih =>
 intro a0_0 A0_1 c0_1 l0_1 P1_0_ u9000_ l1_0 P1_1_ u9001_ l1_1 a1_2 a2 r1 r2 r3 w0 w hB hr0_1 hc0_1 ho1_0 hp1_0_1_1 ho1_1 hp1_1_1_0 h
 cases k with
 | zero => exact absurd h (by simp [compassref04_visit.f])
 | succ k =>
 simp only [compassref04_visit.f] at h
 have hu24 := Try.underlying24
 have hu66 := Try.underlying66
 have HR0_1 := ak hr0_1
 have HC0_1 := ak hc0_1
 clear hr0_1 hc0_1
 have HO1_0 := ak (show Kd.R (Kd.int .i64) 3 w w0.heap.size (fun k_ => ((P1_0_ k_ ∨ P1_1_ k_) ∨ w.heap.size ≤ k_) ∧ some k_ ≠ (u9001_ : Value).ownBlock) u9000_ l1_0 from Kd.R_mono ho1_0 (fun k_ hk => ⟨(.inl (.inl hk)), fun e_ => hp1_0_1_1 k_ hk (ho1_1.1 k_ e_.symm)⟩))
 have HO1_1 := ak (show Kd.R (Kd.int .i64) 3 w w0.heap.size (fun k_ => ((P1_0_ k_ ∨ P1_1_ k_) ∨ w.heap.size ≤ k_) ∧ some k_ ≠ (u9000_ : Value).ownBlock) u9001_ l1_1 from Kd.R_mono ho1_1 (fun k_ hk => ⟨(.inl (.inr hk)), fun e_ => hp1_1_1_0 k_ hk (ho1_0.1 k_ e_.symm)⟩))
 have HK := ak (Kept.refl w (fun k_ => P1_0_ k_ ∨ P1_1_ k_))
 have HW0 := ak hB.size
 have HB := ak hB
 clear hB
 have H : (if 0 ≤ a2 then (if a2 < (l1_0.length : Int) then (compassref04_visit.l0 k a2 0 a0_0 l0_1 (l1_0.set (a2 : Int).toNat a1_2) l1_1 (wrap64 (a1_2 + 1))) else (none)) else (none)) = some (r1, r2, r3) := h
 clear h
 by_cases c4 : 0 ≤ a2
 rotate_left
 ·
  rw [if_neg c4] at H
  exact absurd H (by simp)

 rw [if_pos c4] at H
 have c4b0 : decide (0 ≤ a2) = true := decide_eq_true c4
 clear c4
 by_cases c5 : a2 < (l1_0.length : Int)
 rotate_left
 ·
  rw [if_neg c5] at H
  exact absurd H (by simp)
 rw [if_pos c5] at H
 have c5b0 : decide (a2 < (l1_0.length : Int)) = true := decide_eq_true c5
 clear c5
 obtain ⟨y241, hy241⟩ : ∃ y_ : List Int, y_ = (l1_0.set (a2 : Int).toNat a1_2) := ⟨_, rfl⟩
 replace H : (compassref04_visit.l0 k a2 0 a0_0 l0_1 y241 l1_1 (wrap64 (a1_2 + 1))) = some (r1, r2, r3) := by first | (rw [hy241]; exact H) | exact H
 have Ny241 := ak hy241
 clear hy241
 have H' := ak H
 clear H
 go_enter Try.func37, Try.ntmps37
 go_wp2_with (first | ((with_reducible refine gate_dst (N := 3) rfl ?_); refine box_event ?hg (N := 3) ?hd (cs := #[.int .i64 a0_0, .slice A0_1 l0_1.length c0_1]) (t := 24) ?hr ?_; (case hd => rfl); (case hg => rfl); (case hr => first | (go_simp; done) | (go_simp; rfl)); intro gb238 hg w7 hbox hb; have n0_ := ak (Kd.R_below (rx HO1_0.out) hb); have n1_ := ak (Kd.R_below (rx HO1_1.out) hb); have n2_ := ak (Kept.below (S := (fun k_ => P1_0_ k_ ∨ P1_1_ k_)) lk hb); have n3_ := ak (below_step lb hb); have n4_ := ak (hbox); have n5_ := ak ((by rw [hg]; exact (by first | exact HK.out.1 | exact (show Kept w _ (fun k_ => P1_0_ k_ ∨ P1_1_ k_) from lk).1) : w.heap.size ≤ gb238)); have n6_ := ak ((by rw [hg]; exact (below_size lb) : w0.heap.size ≤ gb238)); clear HO1_0; clear HO1_1; clear HK; clear HB; have HO1_0 := n0_; have HO1_1 := n1_; have HK := n2_; have HB := n3_; have BK238 := n4_; have GW238 := n5_; have GE238 := n6_; clear n0_ n1_ n2_ n3_ n4_ n5_ n6_; clear hb hbox hg; obtain ⟨Ao8, co8, eo8⟩ := Kd.R_slice HO1_0.out; subst eo8; obtain ⟨Ao9, co9, eo9⟩ := Kd.R_slice HO1_1.out; subst eo9) | ((with_reducible refine gate_dst (N := 4) rfl ?_); refine box_event ?hg (N := 4) ?hd (cs := #[.slice Ao8 l1_0.length co8, .slice Ao9 l1_1.length co9, .int .i64 a1_2]) (t := 66) ?hr ?_; (case hd => rfl); (case hg => rfl); (case hr => first | (go_simp; done) | (go_simp; rfl)); intro gb239 hg w10 hbox hb; have n0_ := ak (Kd.R_below (rx HO1_0.out) hb); have n1_ := ak (Kd.R_below (rx HO1_1.out) hb); have n2_ := ak (blk_below (bx BK238.out) hb); have n3_ := ak (Kept.below (S := (fun k_ => P1_0_ k_ ∨ P1_1_ k_)) lk hb); have n4_ := ak (below_step lb hb); have n5_ := ak (hbox); have n6_ := ak ((by rw [hg]; exact (by first | exact HK.out.1 | exact (show Kept w _ (fun k_ => P1_0_ k_ ∨ P1_1_ k_) from lk).1) : w.heap.size ≤ gb239)); have n7_ := ak ((by rw [hg]; exact (below_size lb) : w0.heap.size ≤ gb239)); have n8_ := ak ((by rw [hg]; exact Nat.ne_of_lt (blk_lt (g := gb238) (o := .cells #[.int .i64 a0_0, .slice A0_1 l0_1.length c0_1] 24 (0, 0)) (bx BK238.out)) : gb238 ≠ gb239)); have n9_ := ak ((by rw [hg]; exact Nat.ne_of_gt (blk_lt (g := gb238) (o := .cells #[.int .i64 a0_0, .slice A0_1 l0_1.length c0_1] 24 (0, 0)) (bx BK238.out)) : gb239 ≠ gb238)); clear HO1_0; clear HO1_1; clear BK238; clear HK; clear HB; have HO1_0 := n0_; have HO1_1 := n1_; have BK238 := n2_; have HK := n3_; have HB := n4_; have BK239 := n5_; have GW239 := n6_; have GE239 := n7_; have NB238_239 := n8_; have NB239_238 := n9_; clear n0_ n1_ n2_ n3_ n4_ n5_ n6_ n7_ n8_ n9_; clear hb hbox hg) | ((with_reducible refine gate_dst (N := 6) rfl ?_); refine box_event ?hg (N := 6) ?hd (cs := #[.slice none 0 0, .slice none 0 0, .int .i64 0]) (t := 66) ?hr ?_; (case hd => rfl); (case hg => rfl); (case hr => first | (go_simp; done) | (go_simp; rfl)); intro gb240 hg w11 hbox hb; have n0_ := ak (Kd.R_below (rx HO1_0.out) hb); have n1_ := ak (Kd.R_below (rx HO1_1.out) hb); have n2_ := ak (blk_below (bx BK238.out) hb); have n3_ := ak (blk_below (bx BK239.out) hb); have n4_ := ak (Kept.below (S := (fun k_ => P1_0_ k_ ∨ P1_1_ k_)) lk hb); have n5_ := ak (below_step lb hb); have n6_ := ak (hbox); have n7_ := ak ((by rw [hg]; exact (by first | exact HK.out.1 | exact (show Kept w _ (fun k_ => P1_0_ k_ ∨ P1_1_ k_) from lk).1) : w.heap.size ≤ gb240)); have n8_ := ak ((by rw [hg]; exact (below_size lb) : w0.heap.size ≤ gb240)); have n9_ := ak ((by rw [hg]; exact Nat.ne_of_lt (blk_lt (g := gb238) (o := .cells #[.int .i64 a0_0, .slice A0_1 l0_1.length c0_1] 24 (0, 0)) (bx BK238.out)) : gb238 ≠ gb240)); have n10_ := ak ((by rw [hg]; exact Nat.ne_of_gt (blk_lt (g := gb238) (o := .cells #[.int .i64 a0_0, .slice A0_1 l0_1.length c0_1] 24 (0, 0)) (bx BK238.out)) : gb240 ≠ gb238)); have n11_ := ak ((by rw [hg]; exact Nat.ne_of_lt (blk_lt (g := gb239) (o := .cells #[.slice Ao8 l1_0.length co8, .slice Ao9 l1_1.length co9, .int .i64 a1_2] 66 (0, 0)) (bx BK239.out)) : gb239 ≠ gb240)); have n12_ := ak ((by rw [hg]; exact Nat.ne_of_gt (blk_lt (g := gb239) (o := .cells #[.slice Ao8 l1_0.length co8, .slice Ao9 l1_1.length co9, .int .i64 a1_2] 66 (0, 0)) (bx BK239.out)) : gb240 ≠ gb239)); clear HO1_0; clear HO1_1; clear BK238; clear BK239; clear HK; clear HB; have HO1_0 := n0_; have HO1_1 := n1_; have BK238 := n2_; have BK239 := n3_; have HK := n4_; have HB := n5_; have BK240 := n6_; have GW240 := n7_; have GE240 := n8_; have NB238_240 := n9_; have NB240_238 := n10_; have NB239_240 := n11_; have NB240_239 := n12_; clear n0_ n1_ n2_ n3_ n4_ n5_ n6_ n7_ n8_ n9_ n10_ n11_ n12_; clear hb hbox hg; have hnb12 := NB239_238.out; have hnc12 := NB238_239.out; have hnb13 := NB239_240.out; have hnc13 := NB240_239.out; have hcz14_0 : w11.cell? ⟨gb239, 0, none⟩ = some (.slice Ao8 l1_0.length co8) := (blk_cell BK239.out 0).trans rfl; have hcz14_1 : w11.cell? ⟨gb239, 1, none⟩ = some (.slice Ao9 l1_1.length co9) := (blk_cell BK239.out 1).trans rfl; have hcz14_2 : w11.cell? ⟨gb239, 2, none⟩ = some (.int .i64 a1_2) := (blk_cell BK239.out 2).trans rfl; have hfz14_0 := blk_frozen BK239.out 0; have hfz14_1 := blk_frozen BK239.out 1; have hfz14_2 := blk_frozen BK239.out 2; have p6 : 0 ≤ (a2 : Int) := oda; have q6 : (a2 : Int) < ((l1_0.length : Int) : Int) := oda; obtain ⟨go6, co6, eo6, gb6, gl6, cl6, HG6⟩ := Kd.R_form HO1_0.out (by omega); (first | cases eo6 | (injection eo6 with ea_ en_ ec_; (first | subst ea_ | (injection ea_ with ea_; subst ea_)); subst ec_; clear en_)); have GB6 := ak gb6; have GG6 := ak HG6; clear gb6 gl6 HG6; have HMgo6 := ak (show ((P1_0_ go6 ∨ P1_1_ go6) ∨ w.heap.size ≤ go6) from (HO1_0.out.1 _ rfl).1); obtain ⟨hx6_0, hf6_0⟩ := Kd.R_celln 0 HO1_0.out (a2 : Int) p6 q6; replace p6 := eq_true p6; replace q6 := eq_true q6; obtain ⟨hy15_, hz15_⟩ := Kd.R_celln 0 HO1_0.out (a2 : Int) (oda) (oda); have HP15 := Kd.R_putg HO1_0.out (a2 : Int) a1_2) | ((with_reducible refine gate_store (t := 3) (p := 13) rfl ?_); refine store_event (t := 3) (p := 13) (v := ?vo_w16) (w1 := (w11.setCell ⟨go6, (a2 : Int).toNat, none⟩ (.int .i64 a1_2))) ?hg ?ho ?hn ?hr ?_; (case ho => rfl); (case hg => rfl); (case hn => rfl); (case hr => first | (go_simp; done) | (go_simp; rfl)); intro w16 hw; have hg : w11.grownBy w16 (some go6) := (by rw [hw]; exact HP15.2); have hp_ : Kd.R (Kd.int .i64) 3 w16 w0.heap.size (fun k_ => ((P1_0_ k_ ∨ P1_1_ k_) ∨ w.heap.size ≤ k_) ∧ some k_ ≠ (.slice Ao9 l1_1.length co9 : Value).ownBlock) (.slice (some ⟨go6, 0, none⟩) l1_0.length co8) y241 := (by rw [hw, Ny241.out]; exact HP15.1); clear HP15; have n0_ := ak (hp_); have n1_ := ak (Kd.R_after (v := (.slice (some ⟨go6, 0, none⟩) l1_0.length co8)) (v1 := (.slice (some ⟨go6, 0, none⟩) l1_0.length co8)) (ok := (fun k_ => ((P1_0_ k_ ∨ P1_1_ k_) ∨ w.heap.size ≤ k_))) (rx HO1_1.out) hg (.inl rfl)); have n2_ := ak (blk_grown (bx BK238.out) hg (Kd.R_ne HO1_0.out BK238.out (by decide))); have n3_ := ak (blk_grown (bx BK239.out) hg (Kd.R_ne HO1_0.out BK239.out (by decide))); have n4_ := ak (blk_grown (bx BK240.out) hg (Kd.R_ne HO1_0.out BK240.out (by decide))); have n5_ := ak ((by rw [hw]; exact below_set (HB.out) GB6.out : Below w0.heap.size w0 w16)); have n6_ := ak (Kept.of_grown (S := (fun k_ => P1_0_ k_ ∨ P1_1_ k_)) hg lk (fun k_ e_ => (HO1_0.out.1 k_ e_).1)); clear HO1_0; clear HO1_1; clear BK238; clear BK239; clear BK240; clear HB; clear HK; have HO1_0 := n0_; have HO1_1 := n1_; have BK238 := n2_; have BK239 := n3_; have BK240 := n4_; have HB := n5_; have HK := n6_; clear n0_ n1_ n2_ n3_ n4_ n5_ n6_; clear hg hw hp_; have hcz17_0 : w16.cell? ⟨gb239, 0, none⟩ = some (.slice (some ⟨go6, 0, none⟩) l1_0.length co8) := (blk_cell BK239.out 0).trans rfl; have hcz17_1 : w16.cell? ⟨gb239, 1, none⟩ = some (.slice Ao9 l1_1.length co9) := (blk_cell BK239.out 1).trans rfl; have hcz17_2 : w16.cell? ⟨gb239, 2, none⟩ = some (.int .i64 a1_2) := (blk_cell BK239.out 2).trans rfl; have hfz17_0 := blk_frozen BK239.out 0; have hfz17_1 := blk_frozen BK239.out 1; have hfz17_2 := blk_frozen BK239.out 2))
 go_loopg [7] k (fun kq v7 w' => ∃ (x7_1 : Int) (x240000_1 : List Int) (x240001_1 : List Int) (x240002_1 : Int) (u240000 : Value) (u240001 : Value), v7 = .int .i64 x7_1 ∧ Aside0 (compassref04_visit.l0 kq a2 x7_1 a0_0 l0_1 x240000_1 x240001_1 x240002_1 = some (r1, r2, r3)) ∧ Aside0 (kq ≤ k) ∧ Aside0 (Kd.R (Kd.int .i64) 3 w' w0.heap.size (fun k_ => ((P1_0_ k_ ∨ P1_1_ k_) ∨ w.heap.size ≤ k_) ∧ some k_ ≠ (u240001 : Value).ownBlock) u240000 x240000_1) ∧ Aside0 (Kd.R (Kd.int .i64) 3 w' w0.heap.size (fun k_ => ((P1_0_ k_ ∨ P1_1_ k_) ∨ w.heap.size ≤ k_) ∧ some k_ ≠ (u240000 : Value).ownBlock) u240001 x240001_1) ∧ Aside0 (w'.heap[gb238]? = some (.cells #[.int .i64 a0_0, (.slice A0_1 l0_1.length c0_1)] 24 (0, 0))) ∧ Aside0 (w'.heap[gb239]? = some (.cells #[u240000, u240001, .int .i64 x240002_1] 66 (0, 0))) ∧ Aside0 (w'.heap[gb240]? = some (.cells #[(.slice none 0 0), (.slice none 0 0), .int .i64 0] 66 (0, 0))) ∧ Aside0 (Kept w w' (fun k_ => P1_0_ k_ ∨ P1_1_ k_)) ∧ Aside0 (Below w0.heap.size w0 w'))
 case atStart => exact ⟨(0), (y241), (l1_1), (wrap64 (a1_2 + 1)), (.slice (some ⟨go6, 0, none⟩) l1_0.length co8), (.slice Ao9 l1_1.length co9), (by first | rfl | (simp [*]; done)), H', ⟨Nat.le_refl _⟩, ⟨by exact rx (Kd.R_mono (Kd.R_far (p := ⟨gb239, 2, none⟩) (Kd.R_types HO1_0.out BK239.out (by decide)) (fun _ hk => hk.2) (.int .i64 (wrap64 (a1_2 + 1)))) (fun _ hk => ⟨hk.1.1, hk.1.2⟩))⟩, ⟨by exact rx (Kd.R_mono (Kd.R_far (p := ⟨gb239, 2, none⟩) (Kd.R_types HO1_1.out BK239.out (by decide)) (fun _ hk => hk.2) (.int .i64 (wrap64 (a1_2 + 1)))) (fun _ hk => ⟨hk.1.1, hk.1.2⟩))⟩, ⟨by (with_reducible repeat (first | refine blk_drewN ?_ _ | refine blk_drew ?_ | refine blk_alloc ?_ _)); refine blk_far ?_ NB238_239.out _; exact bx BK238.out⟩, ⟨by (with_reducible repeat (first | refine blk_drewN ?_ _ | refine blk_drew ?_ | refine blk_alloc ?_ _)); refine blk_put (cs := #[.slice (some ⟨go6, 0, none⟩) l1_0.length co8, .slice Ao9 l1_1.length co9, .int .i64 a1_2]) ?_ 2 _ rfl; exact bx BK239.out⟩, ⟨by (with_reducible repeat (first | refine blk_drewN ?_ _ | refine blk_drew ?_ | refine blk_alloc ?_ _)); refine blk_far ?_ NB240_239.out _; exact bx BK240.out⟩, ⟨lk⟩, ⟨lb⟩⟩
 case round =>
  clear H'
  try clear c1; try clear p1; try clear p2; try clear c3; try clear c4; try clear c4b0; try clear c5; try clear c5b0; try clear p6; try clear q6; try clear hx6; try clear hf6; try clear c12; try clear c13; try clear hcz14_0; try clear hcz14_1; try clear hcz14_2; try clear hcz17_0; try clear hcz17_1; try clear hcz17_2; try clear hfz14_0; try clear hfz14_1; try clear hfz14_2; try clear hfz17_0; try clear hfz17_1; try clear hfz17_2; try clear hx6_0; try clear p6; try clear q6
  obtain ⟨x7_1, x240000_1, x240001_1, x240002_1, u240000, u240001, rfl, HA, HK1, HO_240000, HO_240001, BK238, BK239, BK240, HK, HB⟩ := hrel
  cases gk with
  | zero => exact absurd HA.out (by simp [compassref04_visit.l0])
  | succ k1 =>
   have H := HA.out
   clear HA
   simp only [compassref04_visit.l0] at H
   by_cases c18 : x7_1 < (l0_1.length : Int)
   ·
    rw [if_pos c18] at H
    have c18b0 : decide (x7_1 < (l0_1.length : Int)) = true := decide_eq_true c18
    clear c18
    by_cases c19 : 0 ≤ x7_1
    rotate_left
    ·
     rw [if_neg c19] at H
     exact absurd H (by simp)
    rw [if_pos c19] at H
    have c19b0 : decide (0 ≤ x7_1) = true := decide_eq_true c19
    clear c19
    by_cases c20 : ((rd_T41 l0_1 x7_1).f0) = a2
    ·
     rw [if_pos c20] at H
     have c20b0 : (((rd_T41 l0_1 x7_1).f0) == a2) = true := beq_iff_eq.mpr c20
     have c20b1 : (((rd_T41 l0_1 x7_1).f0) != a2) = false := bne_eq_false_iff_eq.mpr c20
     clear c20
     by_cases c21 : 0 ≤ ((rd_T41 l0_1 x7_1).f1)
     rotate_left
     ·
      rw [if_neg c21] at H
      exact absurd H (by simp)
     rw [if_pos c21] at H
     have c21b0 : decide (0 ≤ ((rd_T41 l0_1 x7_1).f1)) = true := decide_eq_true c21
     clear c21
     by_cases c22 : ((rd_T41 l0_1 x7_1).f1) < (x240000_1.length : Int)
     rotate_left
     ·
      rw [if_neg c22] at H
      exact absurd H (by simp)
     rw [if_pos c22] at H
     have c22b0 : decide (((rd_T41 l0_1 x7_1).f1) < (x240000_1.length : Int)) = true := decide_eq_true c22
     clear c22
     by_cases c23 : (rd x240000_1 ((rd_T41 l0_1 x7_1).f1)) < 0
     ·
      rw [if_pos c23] at H
      have c23b0 : decide ((rd x240000_1 ((rd_T41 l0_1 x7_1).f1)) < 0) = true := decide_eq_true c23
      clear c23
      replace H := Option.bind_eq_some_iff.mp H
      obtain ⟨⟨t246, t249, t252⟩, A240, H⟩ := H
      replace H : (compassref04_visit.l0 k1 a2 (wrap64 (x7_1 + 1)) a0_0 l0_1 t246 t249 t252) = some (r1, r2, r3) := H
      have A24 := ak A240
      clear A240
      have H' := ak H
      clear H
      have hnb25 := NB238_239.out
      have hnc25 := NB239_238.out
      have hnb26 := NB238_240.out
      have hnc26 := NB240_238.out
      have hcz27_0 : wr.cell? ⟨gb238, 0, none⟩ = some (.int .i64 a0_0) := (blk_cell BK238.out 0).trans rfl
      have hcz27_1 : wr.cell? ⟨gb238, 1, none⟩ = some (.slice A0_1 l0_1.length c0_1) := (blk_cell BK238.out 1).trans rfl
      have hfz27_0 := blk_frozen BK238.out 0
      have hfz27_1 := blk_frozen BK238.out 1
      try go_wp2
      have n0_ := ak (Kd.R_drew HO_240000.out)
      have n1_ := ak (Kd.R_drew HO_240001.out)
      have n2_ := ak (blk_drew BK238.out)
      have n3_ := ak (blk_drew BK239.out)
      have n4_ := ak (blk_drew BK240.out)
      have n5_ := ak (Kept.drew HK.out)
      have n6_ := ak (below_drew1 HB.out)
      clear HO_240000
      clear HO_240001
      clear BK238
      clear BK239
      clear BK240
      clear HK
      clear HB
      have HO_240000 := n0_
      have HO_240001 := n1_
      have BK238 := n2_
      have BK239 := n3_
      have BK240 := n4_
      have HK := n5_
      have HB := n6_
      clear n0_ n1_ n2_ n3_ n4_ n5_ n6_
      have p242 : 0 ≤ (x7_1 : Int) := oda
      have q242 : x7_1 < (l0_1.length : Int) := oda
      obtain ⟨ad242, e242, hx242_0, hx242_1, hx242_2, hx242_3⟩ := at_T41 (Kd.C_kept_now HR0_1.out HK.out) x7_1 p242 q242
      have hw242_3 := hx242_3
      have hw242_2 := hx242_2
      have hw242_1 := hx242_1
      have hw242_0 := hx242_0
      cases e242
      replace p242 := eq_true p242
      replace q242 := eq_true q242
      have p243 : 0 ≤ (x7_1 : Int) := oda
      have q243 : x7_1 < (l0_1.length : Int) := oda
      obtain ⟨ad243, e243, hx243_0, hx243_1, hx243_2, hx243_3⟩ := at_T41 (Kd.C_kept_now HR0_1.out HK.out) x7_1 p243 q243
      have hw243_3 := hx243_3
      have hw243_2 := hx243_2
      have hw243_1 := hx243_1
      have hw243_0 := hx243_0
      obtain rfl : ad242 = ad243 := (by injection e243)
      replace p243 := eq_true p243
      replace q243 := eq_true q243
      obtain ⟨Ao29, co29, eo29⟩ := Kd.R_slice HO_240000.out
      (first | subst eo29 | (injection eo29 with f1_ f2_ f3_; have f4_ := f1_.symm; have f5_ := f3_.symm; clear f1_ f2_ f3_; subst f4_; subst f5_))
      have p244 : 0 ≤ (((rd_T41 l0_1 x7_1).f1) : Int) := oda
      have q244 : ((rd_T41 l0_1 x7_1).f1) < (x240000_1.length : Int) := oda
      obtain ⟨ad244, e244, hx244_0⟩ := Kd.at_int (Kd.R_reads' HO_240000.out).2.2 ((rd_T41 l0_1 x7_1).f1) p244 q244
      cases e244
      replace p244 := eq_true p244
      replace q244 := eq_true q244
      refine start_ (n := 21) (S := fun w' => w'.cell? ⟨gb238, 0, none⟩ = some (.int .i64 a0_0) ∧ w'.cell? ⟨gb238, 1, none⟩ = some (.slice (some ad242) l0_1.length c0_1) ∧ w'.cell? ⟨gb239, 0, none⟩ = some (.slice (some ad244) x240000_1.length co29) ∧ w'.cell? ⟨gb239, 1, none⟩ = some (u240001) ∧ w'.cell? ⟨gb239, 2, none⟩ = some (.int .i64 x240002_1) ∧ w'.cell? (ad242.add ((x7_1).toNat * 4)) = some (.int .i64 ((rd_T41 l0_1 x7_1).f0)) ∧ w'.cell? ⟨(ad242.add ((x7_1).toNat * 4)).block, (ad242.add ((x7_1).toNat * 4)).off + 1, none⟩ = some (.int .i64 ((rd_T41 l0_1 x7_1).f1)) ∧ w'.cell? ⟨(ad242.add ((x7_1).toNat * 4)).block, (ad242.add ((x7_1).toNat * 4)).off + 2, none⟩ = some (.int .i64 ((rd_T41 l0_1 x7_1).f2)) ∧ w'.cell? ⟨(ad242.add ((x7_1).toNat * 4)).block, (ad242.add ((x7_1).toNat * 4)).off + 3, none⟩ = some (.int .i64 ((rd_T41 l0_1 x7_1).f3)) ∧ w'.cell? (ad242.add ((x7_1).toNat * 4)) = some (.int .i64 ((rd_T41 l0_1 x7_1).f0)) ∧ w'.cell? ⟨(ad242.add ((x7_1).toNat * 4)).block, (ad242.add ((x7_1).toNat * 4)).off + 1, none⟩ = some (.int .i64 ((rd_T41 l0_1 x7_1).f1)) ∧ w'.cell? ⟨(ad242.add ((x7_1).toNat * 4)).block, (ad242.add ((x7_1).toNat * 4)).off + 2, none⟩ = some (.int .i64 ((rd_T41 l0_1 x7_1).f2)) ∧ w'.cell? ⟨(ad242.add ((x7_1).toNat * 4)).block, (ad242.add ((x7_1).toNat * 4)).off + 3, none⟩ = some (.int .i64 ((rd_T41 l0_1 x7_1).f3)) ∧ w'.cell? (ad244.add (((rd_T41 l0_1 x7_1).f1)).toNat) = some (.int .i64 (rd x240000_1 ((rd_T41 l0_1 x7_1).f1)))) (ds := []) #[false, false, false, false, false, false, false, false, false, false, false, false, false, false, false, false, false, false, false, false, false] (by kernel_rfl) rfl rfl ⟨(blk_cell BK238.out 0).trans rfl, (blk_cell BK238.out 1).trans rfl, (blk_cell BK239.out 0).trans rfl, (blk_cell BK239.out 1).trans rfl, (blk_cell BK239.out 2).trans rfl, hx242_0, hx242_1, hx242_2, hx242_3, hx243_0, hx243_1, hx243_2, hx243_3, hx244_0⟩ (fun hHeld => ?_); refine with_tabW compassref04_visit.tab6 compassref04_visit.bits6 (fun HT_ HW_ => ?_)
      generalize wr.drew = w28 at HO_240000 HO_240001 BK238 BK239 BK240 HK HB hx242_0 hx242_1 hx242_2 hx242_3 hx243_0 hx243_1 hx243_2 hx243_3 hx244_0 hHeld ⊢
      refine pure_ (i := 0) (N := some 25) (v := ?_) (a' := ?_) #[true, false, false, false, false, false, false, false, false, false, false, false, false, false, false, false, false, false, false, false, false] rfl rfl (any_of HT_.out (by kernel_rfl)) (fun _ _ _ h => h) (Or.inl ⟨by rfl, ?_⟩) ?_ ?_; rotate_left; intro w'; go_simp; with_reducible rfl; rotate_left; simp only [Act.put, List.setIfInBounds_toArray, List.set_cons_zero, List.set_cons_succ, i64_w, i32_w]; rfl
      refine pure_ (i := 2) (N := some 27) (v := ?_) (a' := ?_) #[true, false, true, false, false, false, false, false, false, false, false, false, false, false, false, false, false, false, false, false, false] rfl rfl (any_of HT_.out (by kernel_rfl)) (fun _ _ _ h => h) (Or.inl ⟨by rfl, ?_⟩) ?_ ?_; rotate_left; intro w'; go_simp; with_reducible rfl; rotate_left; simp only [Act.put, List.setIfInBounds_toArray, List.set_cons_zero, List.set_cons_succ, i64_w, i32_w]; rfl
      refine pure_ (i := 6) (N := some 31) (v := ?_) (a' := ?_) #[true, false, true, false, false, false, true, false, false, false, false, false, false, false, false, false, false, false, false, false, false] rfl rfl (any_of HT_.out (by kernel_rfl)) (fun _ _ _ h => h) (Or.inl ⟨by rfl, ?_⟩) ?_ ?_; rotate_left; intro w'; go_simp; with_reducible rfl; rotate_left; simp only [Act.put, List.setIfInBounds_toArray, List.set_cons_zero, List.set_cons_succ, i64_w, i32_w]; rfl
      refine take_ (i := 1) (N := some 26) (v := ?_) (a' := ?_) #[true, true, true, false, false, false, true, false, false, false, false, false, false, false, false, false, false, false, false, false, false] rfl rfl (take_ofW HT_.out HW_.out (by kernel_rfl)) (fun _ _ _ h => h) (Or.inl ⟨by rfl, ?_⟩) hHeld ?_ ?_; rotate_left; rintro w' ⟨s0, s1, s2, s3, s4, s5, s6, s7, s8, s9, s10, s11, s12, s13⟩; go_simp; with_reducible rfl; rotate_left; simp only [Act.put, List.setIfInBounds_toArray, List.set_cons_zero, List.set_cons_succ, i64_w, i32_w]; rfl
      refine pure_ (i := 3) (N := some 28) (v := ?_) (a' := ?_) #[true, true, true, true, false, false, true, false, false, false, false, false, false, false, false, false, false, false, false, false, false] rfl rfl (any_of HT_.out (by kernel_rfl)) (fun _ _ _ h => h) (Or.inl ⟨by rfl, ?_⟩) ?_ ?_; rotate_left; intro w'; go_simp; with_reducible rfl; rotate_left; simp only [Act.put, List.setIfInBounds_toArray, List.set_cons_zero, List.set_cons_succ, i64_w, i32_w]; rfl
      refine pure_ (i := 4) (N := some 29) (v := ?_) (a' := ?_) #[true, true, true, true, true, false, true, false, false, false, false, false, false, false, false, false, false, false, false, false, false] rfl rfl (any_of HT_.out (by kernel_rfl)) (fun _ _ _ h => h) (Or.inl ⟨by rfl, ?_⟩) ?_ ?_; rotate_left; intro w'; go_simp; with_reducible rfl; rotate_left; simp only [Act.put, List.setIfInBounds_toArray, List.set_cons_zero, List.set_cons_succ, i64_w, i32_w]; rfl
      refine take_ (i := 5) (N := some 30) (v := ?_) (a' := ?_) #[true, true, true, true, true, true, true, false, false, false, false, false, false, false, false, false, false, false, false, false, false] rfl rfl (take_ofW HT_.out HW_.out (by kernel_rfl)) (fun _ _ _ h => h) (Or.inl ⟨by rfl, ?_⟩) hHeld ?_ ?_; rotate_left; rintro w' ⟨s0, s1, s2, s3, s4, s5, s6, s7, s8, s9, s10, s11, s12, s13⟩; go_simp; with_reducible rfl; rotate_left; simp only [Act.put, List.setIfInBounds_toArray, List.set_cons_zero, List.set_cons_succ, i64_w, i32_w]; rfl
      refine pure_ (i := 7) (N := some 32) (v := ?_) (a' := ?_) #[true, true, true, true, true, true, true, true, false, false, false, false, false, false, false, false, false, false, false, false, false] rfl rfl (any_of HT_.out (by kernel_rfl)) (fun _ _ _ h => h) (Or.inl ⟨by rfl, ?_⟩) ?_ ?_; rotate_left; intro w'; go_simp; with_reducible rfl; rotate_left; simp only [Act.put, List.setIfInBounds_toArray, List.set_cons_zero, List.set_cons_succ, i64_w, i32_w]; rfl
      refine pure_ (i := 8) (N := some 33) (v := ?_) (a' := ?_) #[true, true, true, true, true, true, true, true, true, false, false, false, false, false, false, false, false, false, false, false, false] rfl rfl (any_of HT_.out (by kernel_rfl)) (fun _ _ _ h => h) (Or.inl ⟨by rfl, ?_⟩) ?_ ?_; rotate_left; intro w'; go_simp; with_reducible rfl; rotate_left; simp only [Act.put, List.setIfInBounds_toArray, List.set_cons_zero, List.set_cons_succ, i64_w, i32_w]; rfl
      refine pure_ (i := 9) (N := some 34) (v := ?_) (a' := ?_) #[true, true, true, true, true, true, true, true, true, true, false, false, false, false, false, false, false, false, false, false, false] rfl rfl (any_of HT_.out (by kernel_rfl)) (fun _ _ _ h => h) (Or.inl ⟨by rfl, ?_⟩) ?_ ?_; rotate_left; intro w'; go_simp; with_reducible rfl; rotate_left; simp only [Act.put, List.setIfInBounds_toArray, List.set_cons_zero, List.set_cons_succ, i64_w, i32_w]; rfl
      refine pure_ (i := 11) (N := some 36) (v := ?_) (a' := ?_) #[true, true, true, true, true, true, true, true, true, true, false, true, false, false, false, false, false, false, false, false, false] rfl rfl (any_of HT_.out (by kernel_rfl)) (fun _ _ _ h => h) (Or.inl ⟨by rfl, ?_⟩) ?_ ?_; rotate_left; intro w'; go_simp; with_reducible rfl; rotate_left; simp only [Act.put, List.setIfInBounds_toArray, List.set_cons_zero, List.set_cons_succ, i64_w, i32_w]; rfl
      refine pure_ (i := 13) (N := some 38) (v := ?_) (a' := ?_) #[true, true, true, true, true, true, true, true, true, true, false, true, false, true, false, false, false, false, false, false, false] rfl rfl (any_of HT_.out (by kernel_rfl)) (fun _ _ _ h => h) (Or.inl ⟨by rfl, ?_⟩) ?_ ?_; rotate_left; intro w'; go_simp; with_reducible rfl; rotate_left; simp only [Act.put, List.setIfInBounds_toArray, List.set_cons_zero, List.set_cons_succ, i64_w, i32_w]; rfl
      refine take_ (i := 10) (N := some 35) (v := ?_) (a' := ?_) #[true, true, true, true, true, true, true, true, true, true, true, true, false, true, false, false, false, false, false, false, false] rfl rfl (take_ofW HT_.out HW_.out (by kernel_rfl)) (fun _ _ _ h => h) (Or.inl ⟨by rfl, ?_⟩) hHeld ?_ ?_; rotate_left; rintro w' ⟨s0, s1, s2, s3, s4, s5, s6, s7, s8, s9, s10, s11, s12, s13⟩; go_simp; with_reducible rfl; rotate_left; simp only [Act.put, List.setIfInBounds_toArray, List.set_cons_zero, List.set_cons_succ, i64_w, i32_w]; rfl
      refine take_ (i := 12) (N := some 37) (v := ?_) (a' := ?_) #[true, true, true, true, true, true, true, true, true, true, true, true, true, true, false, false, false, false, false, false, false] rfl rfl (take_ofW HT_.out HW_.out (by kernel_rfl)) (fun _ _ _ h => h) (Or.inl ⟨by rfl, ?_⟩) hHeld ?_ ?_; rotate_left; rintro w' ⟨s0, s1, s2, s3, s4, s5, s6, s7, s8, s9, s10, s11, s12, s13⟩; go_simp; with_reducible rfl; rotate_left; simp only [Act.put, List.setIfInBounds_toArray, List.set_cons_zero, List.set_cons_succ, i64_w, i32_w]; rfl
      refine pure_ (i := 14) (N := some 39) (v := ?_) (a' := ?_) #[true, true, true, true, true, true, true, true, true, true, true, true, true, true, true, false, false, false, false, false, false] rfl rfl (any_of HT_.out (by kernel_rfl)) (fun _ _ _ h => h) (Or.inl ⟨by rfl, ?_⟩) ?_ ?_; rotate_left; intro w'; go_simp; with_reducible rfl; rotate_left; simp only [Act.put, List.setIfInBounds_toArray, List.set_cons_zero, List.set_cons_succ, i64_w, i32_w]; rfl
      refine pure_ (i := 15) (N := some 40) (v := ?_) (a' := ?_) #[true, true, true, true, true, true, true, true, true, true, true, true, true, true, true, true, false, false, false, false, false] rfl rfl (any_of HT_.out (by kernel_rfl)) (fun _ _ _ h => h) (Or.inl ⟨by rfl, ?_⟩) ?_ ?_; rotate_left; intro w'; go_simp; with_reducible rfl; rotate_left; simp only [Act.put, List.setIfInBounds_toArray, List.set_cons_zero, List.set_cons_succ, i64_w, i32_w]; rfl
      refine take_ (i := 16) (N := some 41) (v := ?_) (a' := ?_) #[true, true, true, true, true, true, true, true, true, true, true, true, true, true, true, true, true, false, false, false, false] rfl rfl (take_ofW HT_.out HW_.out (by kernel_rfl)) (fun _ _ _ h => h) (Or.inl ⟨by rfl, ?_⟩) hHeld ?_ ?_; rotate_left; rintro w' ⟨s0, s1, s2, s3, s4, s5, s6, s7, s8, s9, s10, s11, s12, s13⟩; go_simp; with_reducible rfl; rotate_left; simp only [Act.put, List.setIfInBounds_toArray, List.set_cons_zero, List.set_cons_succ, i64_w, i32_w]; rfl
      refine pure_ (i := 17) (N := some 42) (v := ?_) (a' := ?_) #[true, true, true, true, true, true, true, true, true, true, true, true, true, true, true, true, true, true, false, false, false] rfl rfl (any_of HT_.out (by kernel_rfl)) (fun _ _ _ h => h) (Or.inl ⟨by rfl, ?_⟩) ?_ ?_; rotate_left; intro w'; go_simp; with_reducible rfl; rotate_left; simp only [Act.put, List.setIfInBounds_toArray, List.set_cons_zero, List.set_cons_succ, i64_w, i32_w]; rfl
      refine take_ (i := 18) (N := some 43) (v := ?_) (a' := ?_) #[true, true, true, true, true, true, true, true, true, true, true, true, true, true, true, true, true, true, true, false, false] rfl rfl (take_ofW HT_.out HW_.out (by kernel_rfl)) (fun _ _ _ h => h) (Or.inl ⟨by rfl, ?_⟩) hHeld ?_ ?_; rotate_left; rintro w' ⟨s0, s1, s2, s3, s4, s5, s6, s7, s8, s9, s10, s11, s12, s13⟩; go_simp; with_reducible rfl; rotate_left; simp only [Act.put, List.setIfInBounds_toArray, List.set_cons_zero, List.set_cons_succ, i64_w, i32_w]; rfl
      refine pure_ (i := 19) (N := some 44) (v := ?_) (a' := ?_) #[true, true, true, true, true, true, true, true, true, true, true, true, true, true, true, true, true, true, true, true, false] rfl rfl (any_of HT_.out (by kernel_rfl)) (fun _ _ _ h => h) (Or.inl ⟨by rfl, ?_⟩) ?_ ?_; rotate_left; intro w'; go_simp; with_reducible rfl; rotate_left; simp only [Act.put, List.setIfInBounds_toArray, List.set_cons_zero, List.set_cons_succ, i64_w, i32_w]; rfl
      refine pure_ (i := 20) (N := some 45) (v := ?_) (a' := ?_) #[true, true, true, true, true, true, true, true, true, true, true, true, true, true, true, true, true, true, true, true, true] rfl rfl (any_of HT_.out (by kernel_rfl)) (fun _ _ _ h => h) (Or.inl ⟨by rfl, ?_⟩) ?_ ?_; rotate_left; intro w'; go_simp; with_reducible rfl; rotate_left; simp only [Act.put, List.setIfInBounds_toArray, List.set_cons_zero, List.set_cons_succ, i64_w, i32_w]; rfl
      refine done_ (done_of HT_.out (by kernel_rfl)) ?_
      try go_wp2
      have n0_ := ak (Kd.R_drew HO_240000.out)
      have n1_ := ak (Kd.R_drew HO_240001.out)
      have n2_ := ak (blk_drew BK238.out)
      have n3_ := ak (blk_drew BK239.out)
      have n4_ := ak (blk_drew BK240.out)
      have n5_ := ak (Kept.drew HK.out)
      have n6_ := ak (below_drew1 HB.out)
      clear HO_240000
      clear HO_240001
      clear BK238
      clear BK239
      clear BK240
      clear HK
      clear HB
      have HO_240000 := n0_
      have HO_240001 := n1_
      have BK238 := n2_
      have BK239 := n3_
      have BK240 := n4_
      have HK := n5_
      have HB := n6_
      clear n0_ n1_ n2_ n3_ n4_ n5_ n6_
      have p245 : 0 ≤ (x7_1 : Int) := oda
      have q245 : x7_1 < (l0_1.length : Int) := oda
      obtain ⟨ad245, e245, hx245_0, hx245_1, hx245_2, hx245_3⟩ := at_T41 (Kd.C_kept_now HR0_1.out HK.out) x7_1 p245 q245
      have hw245_3 := hx245_3
      have hw245_2 := hx245_2
      have hw245_1 := hx245_1
      have hw245_0 := hx245_0
      obtain rfl : ad242 = ad245 := (by injection e245)
      replace p245 := eq_true p245
      replace q245 := eq_true q245
      obtain ⟨Ao31, co31, eo31⟩ := Kd.R_slice HO_240001.out
      (first | subst eo31 | (injection eo31 with f1_ f2_ f3_; have f4_ := f1_.symm; have f5_ := f3_.symm; clear f1_ f2_ f3_; subst f4_; subst f5_))
      refine start_ (n := 10) (S := fun w' => w'.cell? ⟨gb238, 0, none⟩ = some (.int .i64 a0_0) ∧ w'.cell? ⟨gb238, 1, none⟩ = some (.slice (some ad242) l0_1.length c0_1) ∧ w'.cell? ⟨gb239, 0, none⟩ = some (.slice (some ad244) x240000_1.length co29) ∧ w'.cell? ⟨gb239, 1, none⟩ = some (.slice Ao31 x240001_1.length co31) ∧ w'.cell? ⟨gb239, 2, none⟩ = some (.int .i64 x240002_1) ∧ w'.cell? (ad242.add ((x7_1).toNat * 4)) = some (.int .i64 ((rd_T41 l0_1 x7_1).f0)) ∧ w'.cell? ⟨(ad242.add ((x7_1).toNat * 4)).block, (ad242.add ((x7_1).toNat * 4)).off + 1, none⟩ = some (.int .i64 ((rd_T41 l0_1 x7_1).f1)) ∧ w'.cell? ⟨(ad242.add ((x7_1).toNat * 4)).block, (ad242.add ((x7_1).toNat * 4)).off + 2, none⟩ = some (.int .i64 ((rd_T41 l0_1 x7_1).f2)) ∧ w'.cell? ⟨(ad242.add ((x7_1).toNat * 4)).block, (ad242.add ((x7_1).toNat * 4)).off + 3, none⟩ = some (.int .i64 ((rd_T41 l0_1 x7_1).f3))) (ds := [8, 9]) #[false, false, false, false, false, false, false, false, false, false] (by kernel_rfl) rfl rfl ⟨(blk_cell BK238.out 0).trans rfl, (blk_cell BK238.out 1).trans rfl, (blk_cell BK239.out 0).trans rfl, (blk_cell BK239.out 1).trans rfl, (blk_cell BK239.out 2).trans rfl, hx245_0, hx245_1, hx245_2, hx245_3⟩ (fun hHeld => ?_); refine with_tabW compassref04_visit.tab7 compassref04_visit.bits7 (fun HT_ HW_ => ?_)
      generalize w28.drew = w30 at HO_240000 HO_240001 BK238 BK239 BK240 HK HB hx245_0 hx245_1 hx245_2 hx245_3 hHeld ⊢
      refine pure_ (i := 2) (N := some 48) (v := ?_) (a' := ?_) #[false, false, true, false, false, false, false, false, false, false] rfl rfl (any_of HT_.out (by kernel_rfl)) (fun _ _ _ h => h) (Or.inl ⟨by rfl, ?_⟩) ?_ ?_; rotate_left; intro w'; go_simp; with_reducible rfl; rotate_left; simp only [Act.put, List.setIfInBounds_toArray, List.set_cons_zero, List.set_cons_succ, i64_w, i32_w]; rfl
      refine pure_ (i := 4) (N := some 50) (v := ?_) (a' := ?_) #[false, false, true, false, true, false, false, false, false, false] rfl rfl (any_of HT_.out (by kernel_rfl)) (fun _ _ _ h => h) (Or.inl ⟨by rfl, ?_⟩) ?_ ?_; rotate_left; intro w'; go_simp; with_reducible rfl; rotate_left; simp only [Act.put, List.setIfInBounds_toArray, List.set_cons_zero, List.set_cons_succ, i64_w, i32_w]; rfl
      refine take_ (i := 0) (N := some 46) (v := ?_) (a' := ?_) #[true, false, true, false, true, false, false, false, false, false] rfl rfl (take_ofW HT_.out HW_.out (by kernel_rfl)) (fun _ _ _ h => h) (Or.inl ⟨by rfl, ?_⟩) hHeld ?_ ?_; rotate_left; rintro w' ⟨s0, s1, s2, s3, s4, s5, s6, s7, s8⟩; go_simp; with_reducible rfl; rotate_left; simp only [Act.put, List.setIfInBounds_toArray, List.set_cons_zero, List.set_cons_succ, i64_w, i32_w]; rfl
      refine take_ (i := 1) (N := some 47) (v := ?_) (a' := ?_) #[true, true, true, false, true, false, false, false, false, false] rfl rfl (take_ofW HT_.out HW_.out (by kernel_rfl)) (fun _ _ _ h => h) (Or.inl ⟨by rfl, ?_⟩) hHeld ?_ ?_; rotate_left; rintro w' ⟨s0, s1, s2, s3, s4, s5, s6, s7, s8⟩; go_simp; with_reducible rfl; rotate_left; simp only [Act.put, List.setIfInBounds_toArray, List.set_cons_zero, List.set_cons_succ, i64_w, i32_w]; rfl
      refine take_ (i := 3) (N := some 49) (v := ?_) (a' := ?_) #[true, true, true, true, true, false, false, false, false, false] rfl rfl (take_ofW HT_.out HW_.out (by kernel_rfl)) (fun _ _ _ h => h) (Or.inl ⟨by rfl, ?_⟩) hHeld ?_ ?_; rotate_left; rintro w' ⟨s0, s1, s2, s3, s4, s5, s6, s7, s8⟩; go_simp; with_reducible rfl; rotate_left; simp only [Act.put, List.setIfInBounds_toArray, List.set_cons_zero, List.set_cons_succ, i64_w, i32_w]; rfl
      refine pure_ (i := 5) (N := some 51) (v := ?_) (a' := ?_) #[true, true, true, true, true, true, false, false, false, false] rfl rfl (any_of HT_.out (by kernel_rfl)) (fun _ _ _ h => h) (Or.inl ⟨by rfl, ?_⟩) ?_ ?_; rotate_left; intro w'; go_simp; with_reducible rfl; rotate_left; simp only [Act.put, List.setIfInBounds_toArray, List.set_cons_zero, List.set_cons_succ, i64_w, i32_w]; rfl
      refine pure_ (i := 6) (N := some 52) (v := ?_) (a' := ?_) #[true, true, true, true, true, true, true, false, false, false] rfl rfl (any_of HT_.out (by kernel_rfl)) (fun _ _ _ h => h) (Or.inl ⟨by rfl, ?_⟩) ?_ ?_; rotate_left; intro w'; go_simp; with_reducible rfl; rotate_left; simp only [Act.put, List.setIfInBounds_toArray, List.set_cons_zero, List.set_cons_succ, i64_w, i32_w]; rfl
      refine take_ (i := 7) (N := some 53) (v := ?_) (a' := ?_) #[true, true, true, true, true, true, true, true, false, false] rfl rfl (take_ofW HT_.out HW_.out (by kernel_rfl)) (fun _ _ _ h => h) (Or.inl ⟨by rfl, ?_⟩) hHeld ?_ ?_; rotate_left; rintro w' ⟨s0, s1, s2, s3, s4, s5, s6, s7, s8⟩; go_simp; with_reducible rfl; rotate_left; simp only [Act.put, List.setIfInBounds_toArray, List.set_cons_zero, List.set_cons_succ, i64_w, i32_w]; rfl
      refine last_ (i := 8) (N := some 54) #[true, true, true, true, true, true, true, true, true, false] rfl rfl (one_of HT_.out (by kernel_rfl)) (by decide) (fun K hK => ?_)
      refine goes_ Try.func37 (by kernel_rfl) rfl #[.agg #[.int .i64 a0_0, .slice (some ad242) l0_1.length c0_1], .agg #[.slice (some ad244) x240000_1.length co29, .slice Ao31 x240001_1.length co31, .int .i64 x240002_1], .int .i64 ((rd_T41 l0_1 x7_1).f1)] (by rfl) rfl rfl (by (try simp only [List.map_toArray, List.map_cons, List.map_nil]); first | done | rfl | (simp only [List.length_drop, List.length_take]; rfl)) ?_
      with_reducible refine (ih k1 (by have := HK1.out; omega) a0_0 _ _ l0_1 (fun k_ => some k_ = (.slice (some ad244) x240000_1.length co29 : Value).ownBlock) (.slice (some ad244) x240000_1.length co29) x240000_1 (fun k_ => some k_ = (.slice Ao31 x240001_1.length co31 : Value).ownBlock) (.slice Ao31 x240001_1.length co31) x240001_1 x240002_1 ((rd_T41 l0_1 x7_1).f1) t246 t249 t252 w0 _ ?side1 ?side2 ?side3 ?side4 ?side5 ?side6 ?side7 A24.out).mono ?_
      (case side1 => repeat (first | (with_reducible first | exact HB.out | apply below_alloc | apply pw_below_drewN | apply below_drew1 | refine below_set ?_ GE238.out | refine below_set ?_ GE239.out | refine below_set ?_ GE240.out) | exact HB.out))
      (case side2 => exact Kd.C_kept_call HR0_1.out lk (fun k_ hs_ => Or.elim hs_ (fun e_ => (fun e_ => (HO_240000.out.1 k_ e_.symm).1) e_) (fun e_ => (fun e_ => (HO_240001.out.1 k_ e_.symm).1) e_)))
      (case side3 => exact HC0_1.out)
      (case side4 => exact Kd.R_tight rfl HO_240000.out)
      (case side5 => exact fun k_ e_ => (HO_240000.out.1 k_ e_.symm).2)
      (case side6 => exact Kd.R_tight rfl HO_240001.out)
      (case side7 => exact fun k_ e_ => (HO_240001.out.1 k_ e_.symm).2)
      rintro e w32 ⟨v247, v250, rfl, ho0, ho1, hb, hkp⟩
      refine ⟨_, rfl, ?_⟩
      have n0_ := ak (blk_kept (bx BK238.out) hkp (fun hs_ => Or.elim hs_ (fun e_ => (fun e_ => (Kd.R_ne HO_240000.out BK238.out (by decide)) e_) e_) (fun e_ => (fun e_ => (Kd.R_ne HO_240001.out BK238.out (by decide)) e_) e_)))
      have n1_ := ak (blk_kept (bx BK239.out) hkp (fun hs_ => Or.elim hs_ (fun e_ => (fun e_ => (Kd.R_ne HO_240000.out BK239.out (by decide)) e_) e_) (fun e_ => (fun e_ => (Kd.R_ne HO_240001.out BK239.out (by decide)) e_) e_)))
      have n2_ := ak (blk_kept (bx BK240.out) hkp (fun hs_ => Or.elim hs_ (fun e_ => (fun e_ => (Kd.R_ne HO_240000.out BK240.out (by decide)) e_) e_) (fun e_ => (fun e_ => (Kd.R_ne HO_240001.out BK240.out (by decide)) e_) e_)))
      have n3_ := ak (Kd.R_mono (ok' := fun k_ => ((P1_0_ k_ ∨ P1_1_ k_) ∨ w.heap.size ≤ k_) ∧ some k_ ≠ (v250 : Value).ownBlock) ho0 (fun k_ hk_ => ⟨Or.elim hk_.1 (fun hs_ => Or.elim hs_ (fun hs_ => (HO_240000.out.1 k_ (hs_).symm).1) (fun hs_ => (HO_240001.out.1 k_ (hs_).symm).1)) (fun hn_ => (.inr (Nat.le_trans (by first | exact HK.out.1 | exact (show Kept w _ (fun k_ => P1_0_ k_ ∨ P1_1_ k_) from lk).1) hn_))), hk_.2⟩))
      have n4_ := ak (Kd.R_mono (ok' := fun k_ => ((P1_0_ k_ ∨ P1_1_ k_) ∨ w.heap.size ≤ k_) ∧ some k_ ≠ (v247 : Value).ownBlock) ho1 (fun k_ hk_ => ⟨Or.elim hk_.1 (fun hs_ => Or.elim hs_ (fun hs_ => (HO_240000.out.1 k_ (hs_).symm).1) (fun hs_ => (HO_240001.out.1 k_ (hs_).symm).1)) (fun hn_ => (.inr (Nat.le_trans (by first | exact HK.out.1 | exact (show Kept w _ (fun k_ => P1_0_ k_ ∨ P1_1_ k_) from lk).1) hn_))), hk_.2⟩))
      have n5_ := ak (Kept.then_ (S := (fun k_ => P1_0_ k_ ∨ P1_1_ k_)) lk hkp (fun k_ hs_ => Or.elim hs_ (fun e_ => (fun e_ => (HO_240000.out.1 k_ e_.symm).1) e_) (fun e_ => (fun e_ => (HO_240001.out.1 k_ e_.symm).1) e_)))
      have n6_ := ak (hb)
      clear BK238
      clear BK239
      clear BK240
      clear HK
      clear HB
      clear HO_240000
      clear HO_240001
      have BK238 := n0_
      have BK239 := n1_
      have BK240 := n2_
      have HO248 := n3_
      have HO251 := n4_
      have HK := n5_
      have HB := n6_
      clear n0_ n1_ n2_ n3_ n4_ n5_ n6_
      (try clear hb)
      (try clear hkp)
      (try clear ho0)
      (try clear ho1)
      obtain ⟨Ao33, co33, eo33⟩ := Kd.R_slice HO248.out
      (first | subst eo33 | (injection eo33 with f1_ f2_ f3_; have f4_ := f1_.symm; have f5_ := f3_.symm; clear f1_ f2_ f3_; subst f4_; subst f5_))
      obtain ⟨Ao35, co35, eo35⟩ := Kd.R_slice HO251.out
      (first | subst eo35 | (injection eo35 with f1_ f2_ f3_; have f4_ := f1_.symm; have f5_ := f3_.symm; clear f1_ f2_ f3_; subst f4_; subst f5_))
      refine hK.out _ _ ?_
      clear hK K
      refine norm_ (a' := ?_) ?_ ?_
      rotate_left
      ·
       show Act.put _ (some 54) _ = _
       simp only [Act.put, List.setIfInBounds_toArray, List.set_cons_zero, List.set_cons_succ, i64_w, i32_w]
       rfl
      refine last_ (i := 9) (N := none) #[true, true, true, true, true, true, true, true, true, true] rfl rfl (one_of HT_.out (by kernel_rfl)) (by decide) (fun K hK => ?_)
      have hs34 : w32.cell? ⟨gb239, 0, none⟩ = some (.slice (some ad244) x240000_1.length co29) := (blk_cell BK239.out 0).trans rfl
      have hfs34 := blk_frozen BK239.out 0
      have hns34_0 := NB238_239.out
      have hns34_2 := NB240_239.out
      have hms34_0 := NB239_238.out
      have hms34_2 := NB239_240.out
      have hs36 : w32.cell? ⟨gb239, 1, none⟩ = some (.slice Ao31 x240001_1.length co31) := (blk_cell BK239.out 1).trans rfl
      have hfs36 := blk_frozen BK239.out 1
      have hns36_0 := NB238_239.out
      have hns36_2 := NB240_239.out
      have hms36_0 := NB239_238.out
      have hms36_2 := NB239_240.out
      have hs37 : w32.cell? ⟨gb239, 2, none⟩ = some (.int .i64 x240002_1) := (blk_cell BK239.out 2).trans rfl
      have hfs37 := blk_frozen BK239.out 2
      have hns37_0 := NB238_239.out
      have hns37_2 := NB240_239.out
      have hms37_0 := NB239_238.out
      have hms37_2 := NB239_240.out
      refine skip_ (w1 := ?_) (by rfl) rfl ?_ ?_
      rotate_left
      ·
       go_simp
       rfl
      refine hK.out _ _ ?_
      clear hK K
      refine done_ (done_of HT_.out (by kernel_rfl)) ?_
      try go_wp2
      go_roundg k1
      case measure => have := HK1.out; omega
      case rel => exact ⟨(wrap64 (x7_1 + 1)), (t246), (t249), (t252), (.slice Ao33 t246.length co33), (.slice Ao35 t249.length co35), (by first | rfl | (simp [*]; done)), H', ⟨by have := HK1.out; omega⟩, ⟨by exact rx (Kd.R_mono (Kd.R_far (p := ⟨gb239, 2, none⟩) (Kd.R_far (p := ⟨gb239, 1, none⟩) (Kd.R_far (p := ⟨gb239, 0, none⟩) (Kd.R_types HO248.out BK239.out (by decide)) (fun _ hk => hk.2) (.slice Ao33 t246.length co33)) (fun _ hk => hk.2) (.slice Ao35 t249.length co35)) (fun _ hk => hk.2) (.int .i64 t252)) (fun _ hk => ⟨hk.1.1, hk.1.2⟩))⟩, ⟨by exact rx (Kd.R_mono (Kd.R_far (p := ⟨gb239, 2, none⟩) (Kd.R_far (p := ⟨gb239, 1, none⟩) (Kd.R_far (p := ⟨gb239, 0, none⟩) (Kd.R_types HO251.out BK239.out (by decide)) (fun _ hk => hk.2) (.slice Ao33 t246.length co33)) (fun _ hk => hk.2) (.slice Ao35 t249.length co35)) (fun _ hk => hk.2) (.int .i64 t252)) (fun _ hk => ⟨hk.1.1, hk.1.2⟩))⟩, ⟨by (with_reducible repeat (first | refine blk_drewN ?_ _ | refine blk_drew ?_ | refine blk_alloc ?_ _)); refine blk_far ?_ NB238_239.out _; (with_reducible repeat (first | refine blk_drewN ?_ _ | refine blk_drew ?_ | refine blk_alloc ?_ _)); refine blk_far ?_ NB238_239.out _; (with_reducible repeat (first | refine blk_drewN ?_ _ | refine blk_drew ?_ | refine blk_alloc ?_ _)); refine blk_far ?_ NB238_239.out _; exact bx BK238.out⟩, ⟨by (with_reducible repeat (first | refine blk_drewN ?_ _ | refine blk_drew ?_ | refine blk_alloc ?_ _)); refine blk_put (cs := #[.slice Ao33 t246.length co33, .slice Ao35 t249.length co35, .int .i64 x240002_1]) ?_ 2 _ rfl; (with_reducible repeat (first | refine blk_drewN ?_ _ | refine blk_drew ?_ | refine blk_alloc ?_ _)); refine blk_put (cs := #[.slice Ao33 t246.length co33, .slice Ao31 x240001_1.length co31, .int .i64 x240002_1]) ?_ 1 _ rfl; (with_reducible repeat (first | refine blk_drewN ?_ _ | refine blk_drew ?_ | refine blk_alloc ?_ _)); refine blk_put (cs := #[.slice (some ad244) x240000_1.length co29, .slice Ao31 x240001_1.length co31, .int .i64 x240002_1]) ?_ 0 _ rfl; exact bx BK239.out⟩, ⟨by (with_reducible repeat (first | refine blk_drewN ?_ _ | refine blk_drew ?_ | refine blk_alloc ?_ _)); refine blk_far ?_ NB240_239.out _; (with_reducible repeat (first | refine blk_drewN ?_ _ | refine blk_drew ?_ | refine blk_alloc ?_ _)); refine blk_far ?_ NB240_239.out _; (with_reducible repeat (first | refine blk_drewN ?_ _ | refine blk_drew ?_ | refine blk_alloc ?_ _)); refine blk_far ?_ NB240_239.out _; exact bx BK240.out⟩, ⟨lk⟩, ⟨lb⟩⟩
     ·
      rw [if_neg c23] at H
      have c23b0 : decide ((rd x240000_1 ((rd_T41 l0_1 x7_1).f1)) < 0) = false := decide_eq_false c23
      clear c23
      have H' := ak H
      clear H
      have hnb38 := NB238_239.out
      have hnc38 := NB239_238.out
      have hnb39 := NB238_240.out
      have hnc39 := NB240_238.out
      have hcz40_0 : wr.cell? ⟨gb238, 0, none⟩ = some (.int .i64 a0_0) := (blk_cell BK238.out 0).trans rfl
      have hcz40_1 : wr.cell? ⟨gb238, 1, none⟩ = some (.slice A0_1 l0_1.length c0_1) := (blk_cell BK238.out 1).trans rfl
      have hfz40_0 := blk_frozen BK238.out 0
      have hfz40_1 := blk_frozen BK238.out 1
      try go_wp2
      have n0_ := ak (Kd.R_drew HO_240000.out)
      have n1_ := ak (Kd.R_drew HO_240001.out)
      have n2_ := ak (blk_drew BK238.out)
      have n3_ := ak (blk_drew BK239.out)
      have n4_ := ak (blk_drew BK240.out)
      have n5_ := ak (Kept.drew HK.out)
      have n6_ := ak (below_drew1 HB.out)
      clear HO_240000
      clear HO_240001
      clear BK238
      clear BK239
      clear BK240
      clear HK
      clear HB
      have HO_240000 := n0_
      have HO_240001 := n1_
      have BK238 := n2_
      have BK239 := n3_
      have BK240 := n4_
      have HK := n5_
      have HB := n6_
      clear n0_ n1_ n2_ n3_ n4_ n5_ n6_
      have p242 : 0 ≤ (x7_1 : Int) := oda
      have q242 : x7_1 < (l0_1.length : Int) := oda
      obtain ⟨ad242, e242, hx242_0, hx242_1, hx242_2, hx242_3⟩ := at_T41 (Kd.C_kept_now HR0_1.out HK.out) x7_1 p242 q242
      have hw242_3 := hx242_3
      have hw242_2 := hx242_2
      have hw242_1 := hx242_1
      have hw242_0 := hx242_0
      cases e242
      replace p242 := eq_true p242
      replace q242 := eq_true q242
      have p243 : 0 ≤ (x7_1 : Int) := oda
      have q243 : x7_1 < (l0_1.length : Int) := oda
      obtain ⟨ad243, e243, hx243_0, hx243_1, hx243_2, hx243_3⟩ := at_T41 (Kd.C_kept_now HR0_1.out HK.out) x7_1 p243 q243
      have hw243_3 := hx243_3
      have hw243_2 := hx243_2
      have hw243_1 := hx243_1
      have hw243_0 := hx243_0
      obtain rfl : ad242 = ad243 := (by injection e243)
      replace p243 := eq_true p243
      replace q243 := eq_true q243
      obtain ⟨Ao42, co42, eo42⟩ := Kd.R_slice HO_240000.out
      (first | subst eo42 | (injection eo42 with f1_ f2_ f3_; have f4_ := f1_.symm; have f5_ := f3_.symm; clear f1_ f2_ f3_; subst f4_; subst f5_))
      have p244 : 0 ≤ (((rd_T41 l0_1 x7_1).f1) : Int) := oda
      have q244 : ((rd_T41 l0_1 x7_1).f1) < (x240000_1.length : Int) := oda
      obtain ⟨ad244, e244, hx244_0⟩ := Kd.at_int (Kd.R_reads' HO_240000.out).2.2 ((rd_T41 l0_1 x7_1).f1) p244 q244
      cases e244
      replace p244 := eq_true p244
      replace q244 := eq_true q244
      refine start_ (n := 21) (S := fun w' => w'.cell? ⟨gb238, 0, none⟩ = some (.int .i64 a0_0) ∧ w'.cell? ⟨gb238, 1, none⟩ = some (.slice (some ad242) l0_1.length c0_1) ∧ w'.cell? ⟨gb239, 0, none⟩ = some (.slice (some ad244) x240000_1.length co42) ∧ w'.cell? ⟨gb239, 1, none⟩ = some (u240001) ∧ w'.cell? ⟨gb239, 2, none⟩ = some (.int .i64 x240002_1) ∧ w'.cell? (ad242.add ((x7_1).toNat * 4)) = some (.int .i64 ((rd_T41 l0_1 x7_1).f0)) ∧ w'.cell? ⟨(ad242.add ((x7_1).toNat * 4)).block, (ad242.add ((x7_1).toNat * 4)).off + 1, none⟩ = some (.int .i64 ((rd_T41 l0_1 x7_1).f1)) ∧ w'.cell? ⟨(ad242.add ((x7_1).toNat * 4)).block, (ad242.add ((x7_1).toNat * 4)).off + 2, none⟩ = some (.int .i64 ((rd_T41 l0_1 x7_1).f2)) ∧ w'.cell? ⟨(ad242.add ((x7_1).toNat * 4)).block, (ad242.add ((x7_1).toNat * 4)).off + 3, none⟩ = some (.int .i64 ((rd_T41 l0_1 x7_1).f3)) ∧ w'.cell? (ad242.add ((x7_1).toNat * 4)) = some (.int .i64 ((rd_T41 l0_1 x7_1).f0)) ∧ w'.cell? ⟨(ad242.add ((x7_1).toNat * 4)).block, (ad242.add ((x7_1).toNat * 4)).off + 1, none⟩ = some (.int .i64 ((rd_T41 l0_1 x7_1).f1)) ∧ w'.cell? ⟨(ad242.add ((x7_1).toNat * 4)).block, (ad242.add ((x7_1).toNat * 4)).off + 2, none⟩ = some (.int .i64 ((rd_T41 l0_1 x7_1).f2)) ∧ w'.cell? ⟨(ad242.add ((x7_1).toNat * 4)).block, (ad242.add ((x7_1).toNat * 4)).off + 3, none⟩ = some (.int .i64 ((rd_T41 l0_1 x7_1).f3)) ∧ w'.cell? (ad244.add (((rd_T41 l0_1 x7_1).f1)).toNat) = some (.int .i64 (rd x240000_1 ((rd_T41 l0_1 x7_1).f1)))) (ds := []) #[false, false, false, false, false, false, false, false, false, false, false, false, false, false, false, false, false, false, false, false, false] (by kernel_rfl) rfl rfl ⟨(blk_cell BK238.out 0).trans rfl, (blk_cell BK238.out 1).trans rfl, (blk_cell BK239.out 0).trans rfl, (blk_cell BK239.out 1).trans rfl, (blk_cell BK239.out 2).trans rfl, hx242_0, hx242_1, hx242_2, hx242_3, hx243_0, hx243_1, hx243_2, hx243_3, hx244_0⟩ (fun hHeld => ?_); refine with_tabW compassref04_visit.tab6 compassref04_visit.bits6 (fun HT_ HW_ => ?_)
      generalize wr.drew = w41 at HO_240000 HO_240001 BK238 BK239 BK240 HK HB hx242_0 hx242_1 hx242_2 hx242_3 hx243_0 hx243_1 hx243_2 hx243_3 hx244_0 hHeld ⊢
      refine pure_ (i := 0) (N := some 25) (v := ?_) (a' := ?_) #[true, false, false, false, false, false, false, false, false, false, false, false, false, false, false, false, false, false, false, false, false] rfl rfl (any_of HT_.out (by kernel_rfl)) (fun _ _ _ h => h) (Or.inl ⟨by rfl, ?_⟩) ?_ ?_; rotate_left; intro w'; go_simp; with_reducible rfl; rotate_left; simp only [Act.put, List.setIfInBounds_toArray, List.set_cons_zero, List.set_cons_succ, i64_w, i32_w]; rfl
      refine pure_ (i := 2) (N := some 27) (v := ?_) (a' := ?_) #[true, false, true, false, false, false, false, false, false, false, false, false, false, false, false, false, false, false, false, false, false] rfl rfl (any_of HT_.out (by kernel_rfl)) (fun _ _ _ h => h) (Or.inl ⟨by rfl, ?_⟩) ?_ ?_; rotate_left; intro w'; go_simp; with_reducible rfl; rotate_left; simp only [Act.put, List.setIfInBounds_toArray, List.set_cons_zero, List.set_cons_succ, i64_w, i32_w]; rfl
      refine pure_ (i := 6) (N := some 31) (v := ?_) (a' := ?_) #[true, false, true, false, false, false, true, false, false, false, false, false, false, false, false, false, false, false, false, false, false] rfl rfl (any_of HT_.out (by kernel_rfl)) (fun _ _ _ h => h) (Or.inl ⟨by rfl, ?_⟩) ?_ ?_; rotate_left; intro w'; go_simp; with_reducible rfl; rotate_left; simp only [Act.put, List.setIfInBounds_toArray, List.set_cons_zero, List.set_cons_succ, i64_w, i32_w]; rfl
      refine take_ (i := 1) (N := some 26) (v := ?_) (a' := ?_) #[true, true, true, false, false, false, true, false, false, false, false, false, false, false, false, false, false, false, false, false, false] rfl rfl (take_ofW HT_.out HW_.out (by kernel_rfl)) (fun _ _ _ h => h) (Or.inl ⟨by rfl, ?_⟩) hHeld ?_ ?_; rotate_left; rintro w' ⟨s0, s1, s2, s3, s4, s5, s6, s7, s8, s9, s10, s11, s12, s13⟩; go_simp; with_reducible rfl; rotate_left; simp only [Act.put, List.setIfInBounds_toArray, List.set_cons_zero, List.set_cons_succ, i64_w, i32_w]; rfl
      refine pure_ (i := 3) (N := some 28) (v := ?_) (a' := ?_) #[true, true, true, true, false, false, true, false, false, false, false, false, false, false, false, false, false, false, false, false, false] rfl rfl (any_of HT_.out (by kernel_rfl)) (fun _ _ _ h => h) (Or.inl ⟨by rfl, ?_⟩) ?_ ?_; rotate_left; intro w'; go_simp; with_reducible rfl; rotate_left; simp only [Act.put, List.setIfInBounds_toArray, List.set_cons_zero, List.set_cons_succ, i64_w, i32_w]; rfl
      refine pure_ (i := 4) (N := some 29) (v := ?_) (a' := ?_) #[true, true, true, true, true, false, true, false, false, false, false, false, false, false, false, false, false, false, false, false, false] rfl rfl (any_of HT_.out (by kernel_rfl)) (fun _ _ _ h => h) (Or.inl ⟨by rfl, ?_⟩) ?_ ?_; rotate_left; intro w'; go_simp; with_reducible rfl; rotate_left; simp only [Act.put, List.setIfInBounds_toArray, List.set_cons_zero, List.set_cons_succ, i64_w, i32_w]; rfl
      refine take_ (i := 5) (N := some 30) (v := ?_) (a' := ?_) #[true, true, true, true, true, true, true, false, false, false, false, false, false, false, false, false, false, false, false, false, false] rfl rfl (take_ofW HT_.out HW_.out (by kernel_rfl)) (fun _ _ _ h => h) (Or.inl ⟨by rfl, ?_⟩) hHeld ?_ ?_; rotate_left; rintro w' ⟨s0, s1, s2, s3, s4, s5, s6, s7, s8, s9, s10, s11, s12, s13⟩; go_simp; with_reducible rfl; rotate_left; simp only [Act.put, List.setIfInBounds_toArray, List.set_cons_zero, List.set_cons_succ, i64_w, i32_w]; rfl
      refine pure_ (i := 7) (N := some 32) (v := ?_) (a' := ?_) #[true, true, true, true, true, true, true, true, false, false, false, false, false, false, false, false, false, false, false, false, false] rfl rfl (any_of HT_.out (by kernel_rfl)) (fun _ _ _ h => h) (Or.inl ⟨by rfl, ?_⟩) ?_ ?_; rotate_left; intro w'; go_simp; with_reducible rfl; rotate_left; simp only [Act.put, List.setIfInBounds_toArray, List.set_cons_zero, List.set_cons_succ, i64_w, i32_w]; rfl
      refine pure_ (i := 8) (N := some 33) (v := ?_) (a' := ?_) #[true, true, true, true, true, true, true, true, true, false, false, false, false, false, false, false, false, false, false, false, false] rfl rfl (any_of HT_.out (by kernel_rfl)) (fun _ _ _ h => h) (Or.inl ⟨by rfl, ?_⟩) ?_ ?_; rotate_left; intro w'; go_simp; with_reducible rfl; rotate_left; simp only [Act.put, List.setIfInBounds_toArray, List.set_cons_zero, List.set_cons_succ, i64_w, i32_w]; rfl
      refine pure_ (i := 9) (N := some 34) (v := ?_) (a' := ?_) #[true, true, true, true, true, true, true, true, true, true, false, false, false, false, false, false, false, false, false, false, false] rfl rfl (any_of HT_.out (by kernel_rfl)) (fun _ _ _ h => h) (Or.inl ⟨by rfl, ?_⟩) ?_ ?_; rotate_left; intro w'; go_simp; with_reducible rfl; rotate_left; simp only [Act.put, List.setIfInBounds_toArray, List.set_cons_zero, List.set_cons_succ, i64_w, i32_w]; rfl
      refine pure_ (i := 11) (N := some 36) (v := ?_) (a' := ?_) #[true, true, true, true, true, true, true, true, true, true, false, true, false, false, false, false, false, false, false, false, false] rfl rfl (any_of HT_.out (by kernel_rfl)) (fun _ _ _ h => h) (Or.inl ⟨by rfl, ?_⟩) ?_ ?_; rotate_left; intro w'; go_simp; with_reducible rfl; rotate_left; simp only [Act.put, List.setIfInBounds_toArray, List.set_cons_zero, List.set_cons_succ, i64_w, i32_w]; rfl
      refine pure_ (i := 13) (N := some 38) (v := ?_) (a' := ?_) #[true, true, true, true, true, true, true, true, true, true, false, true, false, true, false, false, false, false, false, false, false] rfl rfl (any_of HT_.out (by kernel_rfl)) (fun _ _ _ h => h) (Or.inl ⟨by rfl, ?_⟩) ?_ ?_; rotate_left; intro w'; go_simp; with_reducible rfl; rotate_left; simp only [Act.put, List.setIfInBounds_toArray, List.set_cons_zero, List.set_cons_succ, i64_w, i32_w]; rfl
      refine take_ (i := 10) (N := some 35) (v := ?_) (a' := ?_) #[true, true, true, true, true, true, true, true, true, true, true, true, false, true, false, false, false, false, false, false, false] rfl rfl (take_ofW HT_.out HW_.out (by kernel_rfl)) (fun _ _ _ h => h) (Or.inl ⟨by rfl, ?_⟩) hHeld ?_ ?_; rotate_left; rintro w' ⟨s0, s1, s2, s3, s4, s5, s6, s7, s8, s9, s10, s11, s12, s13⟩; go_simp; with_reducible rfl; rotate_left; simp only [Act.put, List.setIfInBounds_toArray, List.set_cons_zero, List.set_cons_succ, i64_w, i32_w]; rfl
      refine take_ (i := 12) (N := some 37) (v := ?_) (a' := ?_) #[true, true, true, true, true, true, true, true, true, true, true, true, true, true, false, false, false, false, false, false, false] rfl rfl (take_ofW HT_.out HW_.out (by kernel_rfl)) (fun _ _ _ h => h) (Or.inl ⟨by rfl, ?_⟩) hHeld ?_ ?_; rotate_left; rintro w' ⟨s0, s1, s2, s3, s4, s5, s6, s7, s8, s9, s10, s11, s12, s13⟩; go_simp; with_reducible rfl; rotate_left; simp only [Act.put, List.setIfInBounds_toArray, List.set_cons_zero, List.set_cons_succ, i64_w, i32_w]; rfl
      refine pure_ (i := 14) (N := some 39) (v := ?_) (a' := ?_) #[true, true, true, true, true, true, true, true, true, true, true, true, true, true, true, false, false, false, false, false, false] rfl rfl (any_of HT_.out (by kernel_rfl)) (fun _ _ _ h => h) (Or.inl ⟨by rfl, ?_⟩) ?_ ?_; rotate_left; intro w'; go_simp; with_reducible rfl; rotate_left; simp only [Act.put, List.setIfInBounds_toArray, List.set_cons_zero, List.set_cons_succ, i64_w, i32_w]; rfl
      refine pure_ (i := 15) (N := some 40) (v := ?_) (a' := ?_) #[true, true, true, true, true, true, true, true, true, true, true, true, true, true, true, true, false, false, false, false, false] rfl rfl (any_of HT_.out (by kernel_rfl)) (fun _ _ _ h => h) (Or.inl ⟨by rfl, ?_⟩) ?_ ?_; rotate_left; intro w'; go_simp; with_reducible rfl; rotate_left; simp only [Act.put, List.setIfInBounds_toArray, List.set_cons_zero, List.set_cons_succ, i64_w, i32_w]; rfl
      refine take_ (i := 16) (N := some 41) (v := ?_) (a' := ?_) #[true, true, true, true, true, true, true, true, true, true, true, true, true, true, true, true, true, false, false, false, false] rfl rfl (take_ofW HT_.out HW_.out (by kernel_rfl)) (fun _ _ _ h => h) (Or.inl ⟨by rfl, ?_⟩) hHeld ?_ ?_; rotate_left; rintro w' ⟨s0, s1, s2, s3, s4, s5, s6, s7, s8, s9, s10, s11, s12, s13⟩; go_simp; with_reducible rfl; rotate_left; simp only [Act.put, List.setIfInBounds_toArray, List.set_cons_zero, List.set_cons_succ, i64_w, i32_w]; rfl
      refine pure_ (i := 17) (N := some 42) (v := ?_) (a' := ?_) #[true, true, true, true, true, true, true, true, true, true, true, true, true, true, true, true, true, true, false, false, false] rfl rfl (any_of HT_.out (by kernel_rfl)) (fun _ _ _ h => h) (Or.inl ⟨by rfl, ?_⟩) ?_ ?_; rotate_left; intro w'; go_simp; with_reducible rfl; rotate_left; simp only [Act.put, List.setIfInBounds_toArray, List.set_cons_zero, List.set_cons_succ, i64_w, i32_w]; rfl
      refine take_ (i := 18) (N := some 43) (v := ?_) (a' := ?_) #[true, true, true, true, true, true, true, true, true, true, true, true, true, true, true, true, true, true, true, false, false] rfl rfl (take_ofW HT_.out HW_.out (by kernel_rfl)) (fun _ _ _ h => h) (Or.inl ⟨by rfl, ?_⟩) hHeld ?_ ?_; rotate_left; rintro w' ⟨s0, s1, s2, s3, s4, s5, s6, s7, s8, s9, s10, s11, s12, s13⟩; go_simp; with_reducible rfl; rotate_left; simp only [Act.put, List.setIfInBounds_toArray, List.set_cons_zero, List.set_cons_succ, i64_w, i32_w]; rfl
      refine pure_ (i := 19) (N := some 44) (v := ?_) (a' := ?_) #[true, true, true, true, true, true, true, true, true, true, true, true, true, true, true, true, true, true, true, true, false] rfl rfl (any_of HT_.out (by kernel_rfl)) (fun _ _ _ h => h) (Or.inl ⟨by rfl, ?_⟩) ?_ ?_; rotate_left; intro w'; go_simp; with_reducible rfl; rotate_left; simp only [Act.put, List.setIfInBounds_toArray, List.set_cons_zero, List.set_cons_succ, i64_w, i32_w]; rfl
      refine pure_ (i := 20) (N := some 45) (v := ?_) (a' := ?_) #[true, true, true, true, true, true, true, true, true, true, true, true, true, true, true, true, true, true, true, true, true] rfl rfl (any_of HT_.out (by kernel_rfl)) (fun _ _ _ h => h) (Or.inl ⟨by rfl, ?_⟩) ?_ ?_; rotate_left; intro w'; go_simp; with_reducible rfl; rotate_left; simp only [Act.put, List.setIfInBounds_toArray, List.set_cons_zero, List.set_cons_succ, i64_w, i32_w]; rfl
      refine done_ (done_of HT_.out (by kernel_rfl)) ?_
      try go_wp2
      go_roundg k1
      case measure => have := HK1.out; omega
      case rel => exact ⟨(wrap64 (x7_1 + 1)), (x240000_1), (x240001_1), (x240002_1), (.slice (some ad244) x240000_1.length co42), (u240001), (by first | rfl | (simp [*]; done)), H', ⟨by have := HK1.out; omega⟩, ⟨rx HO_240000.out⟩, ⟨rx HO_240001.out⟩, ⟨bx BK238.out⟩, ⟨bx BK239.out⟩, ⟨bx BK240.out⟩, ⟨lk⟩, ⟨lb⟩⟩
    ·
     rw [if_neg c20] at H
     have c20b0 : (((rd_T41 l0_1 x7_1).f0) == a2) = false := beq_eq_false_iff_ne.mpr c20
     have c20b1 : (((rd_T41 l0_1 x7_1).f0) != a2) = true := bne_iff_ne.mpr c20
     have H' := ak H
     clear H
     have hnb43 := NB238_239.out
     have hnc43 := NB239_238.out
     have hnb44 := NB238_240.out
     have hnc44 := NB240_238.out
     have hcz45_0 : wr.cell? ⟨gb238, 0, none⟩ = some (.int .i64 a0_0) := (blk_cell BK238.out 0).trans rfl
     have hcz45_1 : wr.cell? ⟨gb238, 1, none⟩ = some (.slice A0_1 l0_1.length c0_1) := (blk_cell BK238.out 1).trans rfl
     have hfz45_0 := blk_frozen BK238.out 0
     have hfz45_1 := blk_frozen BK238.out 1
     try go_wp2
     have n0_ := ak (Kd.R_drew HO_240000.out)
     have n1_ := ak (Kd.R_drew HO_240001.out)
     have n2_ := ak (blk_drew BK238.out)
     have n3_ := ak (blk_drew BK239.out)
     have n4_ := ak (blk_drew BK240.out)
     have n5_ := ak (Kept.drew HK.out)
     have n6_ := ak (below_drew1 HB.out)
     clear HO_240000
     clear HO_240001
     clear BK238
     clear BK239
     clear BK240
     clear HK
     clear HB
     have HO_240000 := n0_
     have HO_240001 := n1_
     have BK238 := n2_
     have BK239 := n3_
     have BK240 := n4_
     have HK := n5_
     have HB := n6_
     clear n0_ n1_ n2_ n3_ n4_ n5_ n6_
     have p242 : 0 ≤ (x7_1 : Int) := oda
     have q242 : x7_1 < (l0_1.length : Int) := oda
     obtain ⟨ad242, e242, hx242_0, hx242_1, hx242_2, hx242_3⟩ := at_T41 (Kd.C_kept_now HR0_1.out HK.out) x7_1 p242 q242
     have hw242_3 := hx242_3
     have hw242_2 := hx242_2
     have hw242_1 := hx242_1
     have hw242_0 := hx242_0
     cases e242
     replace p242 := eq_true p242
     replace q242 := eq_true q242
     refine start_ (n := 21) (S := fun w' => w'.cell? ⟨gb238, 0, none⟩ = some (.int .i64 a0_0) ∧ w'.cell? ⟨gb238, 1, none⟩ = some (.slice (some ad242) l0_1.length c0_1) ∧ w'.cell? (ad242.add ((x7_1).toNat * 4)) = some (.int .i64 ((rd_T41 l0_1 x7_1).f0)) ∧ w'.cell? ⟨(ad242.add ((x7_1).toNat * 4)).block, (ad242.add ((x7_1).toNat * 4)).off + 1, none⟩ = some (.int .i64 ((rd_T41 l0_1 x7_1).f1)) ∧ w'.cell? ⟨(ad242.add ((x7_1).toNat * 4)).block, (ad242.add ((x7_1).toNat * 4)).off + 2, none⟩ = some (.int .i64 ((rd_T41 l0_1 x7_1).f2)) ∧ w'.cell? ⟨(ad242.add ((x7_1).toNat * 4)).block, (ad242.add ((x7_1).toNat * 4)).off + 3, none⟩ = some (.int .i64 ((rd_T41 l0_1 x7_1).f3))) (ds := []) #[false, false, false, false, false, false, false, false, false, false, false, false, false, false, false, false, false, false, false, false, false] (by kernel_rfl) rfl rfl ⟨(blk_cell BK238.out 0).trans rfl, (blk_cell BK238.out 1).trans rfl, hx242_0, hx242_1, hx242_2, hx242_3⟩ (fun hHeld => ?_); refine with_tabW compassref04_visit.tab6 compassref04_visit.bits6 (fun HT_ HW_ => ?_)
     generalize wr.drew = w46 at HO_240000 HO_240001 BK238 BK239 BK240 HK HB hx242_0 hx242_1 hx242_2 hx242_3 hHeld ⊢
     refine pure_ (i := 0) (N := some 25) (v := ?_) (a' := ?_) #[true, false, false, false, false, false, false, false, false, false, false, false, false, false, false, false, false, false, false, false, false] rfl rfl (any_of HT_.out (by kernel_rfl)) (fun _ _ _ h => h) (Or.inl ⟨by rfl, ?_⟩) ?_ ?_; rotate_left; intro w'; go_simp; with_reducible rfl; rotate_left; simp only [Act.put, List.setIfInBounds_toArray, List.set_cons_zero, List.set_cons_succ, i64_w, i32_w]; rfl
     refine pure_ (i := 2) (N := some 27) (v := ?_) (a' := ?_) #[true, false, true, false, false, false, false, false, false, false, false, false, false, false, false, false, false, false, false, false, false] rfl rfl (any_of HT_.out (by kernel_rfl)) (fun _ _ _ h => h) (Or.inl ⟨by rfl, ?_⟩) ?_ ?_; rotate_left; intro w'; go_simp; with_reducible rfl; rotate_left; simp only [Act.put, List.setIfInBounds_toArray, List.set_cons_zero, List.set_cons_succ, i64_w, i32_w]; rfl
     refine pure_ (i := 6) (N := some 31) (v := ?_) (a' := ?_) #[true, false, true, false, false, false, true, false, false, false, false, false, false, false, false, false, false, false, false, false, false] rfl rfl (any_of HT_.out (by kernel_rfl)) (fun _ _ _ h => h) (Or.inl ⟨by rfl, ?_⟩) ?_ ?_; rotate_left; intro w'; go_simp; with_reducible rfl; rotate_left; simp only [Act.put, List.setIfInBounds_toArray, List.set_cons_zero, List.set_cons_succ, i64_w, i32_w]; rfl
     refine take_ (i := 1) (N := some 26) (v := ?_) (a' := ?_) #[true, true, true, false, false, false, true, false, false, false, false, false, false, false, false, false, false, false, false, false, false] rfl rfl (take_ofW HT_.out HW_.out (by kernel_rfl)) (fun _ _ _ h => h) (Or.inl ⟨by rfl, ?_⟩) hHeld ?_ ?_; rotate_left; rintro w' ⟨s0, s1, s2, s3, s4, s5⟩; go_simp; with_reducible rfl; rotate_left; simp only [Act.put, List.setIfInBounds_toArray, List.set_cons_zero, List.set_cons_succ, i64_w, i32_w]; rfl
     refine pure_ (i := 3) (N := some 28) (v := ?_) (a' := ?_) #[true, true, true, true, false, false, true, false, false, false, false, false, false, false, false, false, false, false, false, false, false] rfl rfl (any_of HT_.out (by kernel_rfl)) (fun _ _ _ h => h) (Or.inl ⟨by rfl, ?_⟩) ?_ ?_; rotate_left; intro w'; go_simp; with_reducible rfl; rotate_left; simp only [Act.put, List.setIfInBounds_toArray, List.set_cons_zero, List.set_cons_succ, i64_w, i32_w]; rfl
     refine pure_ (i := 4) (N := some 29) (v := ?_) (a' := ?_) #[true, true, true, true, true, false, true, false, false, false, false, false, false, false, false, false, false, false, false, false, false] rfl rfl (any_of HT_.out (by kernel_rfl)) (fun _ _ _ h => h) (Or.inl ⟨by rfl, ?_⟩) ?_ ?_; rotate_left; intro w'; go_simp; with_reducible rfl; rotate_left; simp only [Act.put, List.setIfInBounds_toArray, List.set_cons_zero, List.set_cons_succ, i64_w, i32_w]; rfl
     refine take_ (i := 5) (N := some 30) (v := ?_) (a' := ?_) #[true, true, true, true, true, true, true, false, false, false, false, false, false, false, false, false, false, false, false, false, false] rfl rfl (take_ofW HT_.out HW_.out (by kernel_rfl)) (fun _ _ _ h => h) (Or.inl ⟨by rfl, ?_⟩) hHeld ?_ ?_; rotate_left; rintro w' ⟨s0, s1, s2, s3, s4, s5⟩; go_simp; with_reducible rfl; rotate_left; simp only [Act.put, List.setIfInBounds_toArray, List.set_cons_zero, List.set_cons_succ, i64_w, i32_w]; rfl
     refine pure_ (i := 7) (N := some 32) (v := ?_) (a' := ?_) #[true, true, true, true, true, true, true, true, false, false, false, false, false, false, false, false, false, false, false, false, false] rfl rfl (any_of HT_.out (by kernel_rfl)) (fun _ _ _ h => h) (Or.inl ⟨by rfl, ?_⟩) ?_ ?_; rotate_left; intro w'; go_simp; with_reducible rfl; rotate_left; simp only [Act.put, List.setIfInBounds_toArray, List.set_cons_zero, List.set_cons_succ, i64_w, i32_w]; rfl
     refine pure_ (i := 8) (N := some 33) (v := ?_) (a' := ?_) #[true, true, true, true, true, true, true, true, true, false, false, false, false, false, false, false, false, false, false, false, false] rfl rfl (any_of HT_.out (by kernel_rfl)) (fun _ _ _ h => h) (Or.inl ⟨by rfl, ?_⟩) ?_ ?_; rotate_left; intro w'; go_simp; with_reducible rfl; rotate_left; simp only [Act.put, List.setIfInBounds_toArray, List.set_cons_zero, List.set_cons_succ, i64_w, i32_w]; rfl
     refine pure_ (i := 9) (N := some 34) (v := undef) (a' := ?_) #[true, true, true, true, true, true, true, true, true, true, false, false, false, false, false, false, false, false, false, false, false] rfl rfl (any_of HT_.out (by kernel_rfl)) (fun _ _ _ h => h) (Or.inr ⟨by rfl, rfl⟩) ?_ ?_
     rotate_left
     ·
      simp only [Act.put, List.setIfInBounds_toArray, List.set_cons_zero, List.set_cons_succ, i64_w, i32_w]
      rfl
     refine pure_ (i := 10) (N := some 35) (v := undef) (a' := ?_) #[true, true, true, true, true, true, true, true, true, true, true, false, false, false, false, false, false, false, false, false, false] rfl rfl (any_of HT_.out (by kernel_rfl)) (fun _ _ _ h => h) (Or.inr ⟨by rfl, rfl⟩) ?_ ?_
     rotate_left
     ·
      simp only [Act.put, List.setIfInBounds_toArray, List.set_cons_zero, List.set_cons_succ, i64_w, i32_w]
      rfl
     refine pure_ (i := 11) (N := some 36) (v := undef) (a' := ?_) #[true, true, true, true, true, true, true, true, true, true, true, true, false, false, false, false, false, false, false, false, false] rfl rfl (any_of HT_.out (by kernel_rfl)) (fun _ _ _ h => h) (Or.inr ⟨by rfl, rfl⟩) ?_ ?_
     rotate_left
     ·
      simp only [Act.put, List.setIfInBounds_toArray, List.set_cons_zero, List.set_cons_succ, i64_w, i32_w]
      rfl
     refine pure_ (i := 12) (N := some 37) (v := undef) (a' := ?_) #[true, true, true, true, true, true, true, true, true, true, true, true, true, false, false, false, false, false, false, false, false] rfl rfl (any_of HT_.out (by kernel_rfl)) (fun _ _ _ h => h) (Or.inr ⟨by rfl, rfl⟩) ?_ ?_
     rotate_left
     ·
      simp only [Act.put, List.setIfInBounds_toArray, List.set_cons_zero, List.set_cons_succ, i64_w, i32_w]
      rfl
     refine pure_ (i := 13) (N := some 38) (v := undef) (a' := ?_) #[true, true, true, true, true, true, true, true, true, true, true, true, true, true, false, false, false, false, false, false, false] rfl rfl (any_of HT_.out (by kernel_rfl)) (fun _ _ _ h => h) (Or.inr ⟨by rfl, rfl⟩) ?_ ?_
     rotate_left
     ·
      simp only [Act.put, List.setIfInBounds_toArray, List.set_cons_zero, List.set_cons_succ, i64_w, i32_w]
      rfl
     refine pure_ (i := 14) (N := some 39) (v := undef) (a' := ?_) #[true, true, true, true, true, true, true, true, true, true, true, true, true, true, true, false, false, false, false, false, false] rfl rfl (any_of HT_.out (by kernel_rfl)) (fun _ _ _ h => h) (Or.inr ⟨by rfl, rfl⟩) ?_ ?_
     rotate_left
     ·
      simp only [Act.put, List.setIfInBounds_toArray, List.set_cons_zero, List.set_cons_succ, i64_w, i32_w]
      rfl
     refine pure_ (i := 15) (N := some 40) (v := undef) (a' := ?_) #[true, true, true, true, true, true, true, true, true, true, true, true, true, true, true, true, false, false, false, false, false] rfl rfl (any_of HT_.out (by kernel_rfl)) (fun _ _ _ h => h) (Or.inr ⟨by rfl, rfl⟩) ?_ ?_
     rotate_left
     ·
      simp only [Act.put, List.setIfInBounds_toArray, List.set_cons_zero, List.set_cons_succ, i64_w, i32_w]
      rfl
     refine pure_ (i := 16) (N := some 41) (v := undef) (a' := ?_) #[true, true, true, true, true, true, true, true, true, true, true, true, true, true, true, true, true, false, false, false, false] rfl rfl (any_of HT_.out (by kernel_rfl)) (fun _ _ _ h => h) (Or.inr ⟨by rfl, rfl⟩) ?_ ?_
     rotate_left
     ·
      simp only [Act.put, List.setIfInBounds_toArray, List.set_cons_zero, List.set_cons_succ, i64_w, i32_w]
      rfl
     refine pure_ (i := 17) (N := some 42) (v := undef) (a' := ?_) #[true, true, true, true, true, true, true, true, true, true, true, true, true, true, true, true, true, true, false, false, false] rfl rfl (any_of HT_.out (by kernel_rfl)) (fun _ _ _ h => h) (Or.inr ⟨by rfl, rfl⟩) ?_ ?_
     rotate_left
     ·
      simp only [Act.put, List.setIfInBounds_toArray, List.set_cons_zero, List.set_cons_succ, i64_w, i32_w]
      rfl
     refine pure_ (i := 18) (N := some 43) (v := undef) (a' := ?_) #[true, true, true, true, true, true, true, true, true, true, true, true, true, true, true, true, true, true, true, false, false] rfl rfl (any_of HT_.out (by kernel_rfl)) (fun _ _ _ h => h) (Or.inr ⟨by rfl, rfl⟩) ?_ ?_
     rotate_left
     ·
      simp only [Act.put, List.setIfInBounds_toArray, List.set_cons_zero, List.set_cons_succ, i64_w, i32_w]
      rfl
     refine pure_ (i := 19) (N := some 44) (v := undef) (a' := ?_) #[true, true, true, true, true, true, true, true, true, true, true, true, true, true, true, true, true, true, true, true, false] rfl rfl (any_of HT_.out (by kernel_rfl)) (fun _ _ _ h => h) (Or.inr ⟨by rfl, rfl⟩) ?_ ?_
     rotate_left
     ·
      simp only [Act.put, List.setIfInBounds_toArray, List.set_cons_zero, List.set_cons_succ, i64_w, i32_w]
      rfl
     refine pure_ (i := 20) (N := some 45) (v := ?_) (a' := ?_) #[true, true, true, true, true, true, true, true, true, true, true, true, true, true, true, true, true, true, true, true, true] rfl rfl (any_of HT_.out (by kernel_rfl)) (fun _ _ _ h => h) (Or.inl ⟨by rfl, ?_⟩) ?_ ?_; rotate_left; intro w'; go_simp; with_reducible rfl; rotate_left; simp only [Act.put, List.setIfInBounds_toArray, List.set_cons_zero, List.set_cons_succ, i64_w, i32_w]; rfl
     refine done_ (done_of HT_.out (by kernel_rfl)) ?_
     try go_wp2
     go_roundg k1
     case measure => have := HK1.out; omega
     case rel => exact ⟨(wrap64 (x7_1 + 1)), (x240000_1), (x240001_1), (x240002_1), (u240000), (u240001), (by first | rfl | (simp [*]; done)), H', ⟨by have := HK1.out; omega⟩, ⟨rx HO_240000.out⟩, ⟨rx HO_240001.out⟩, ⟨bx BK238.out⟩, ⟨bx BK239.out⟩, ⟨bx BK240.out⟩, ⟨lk⟩, ⟨lb⟩⟩
   ·
    rw [if_neg c18] at H
    have c18b0 : decide (x7_1 < (l0_1.length : Int)) = false := decide_eq_false c18
    clear c18
    by_cases c47 : 0 ≤ a2
    rotate_left
    ·
     rw [if_neg c47] at H
     exact absurd H (by simp)
    rw [if_pos c47] at H
    have c47b0 : decide (0 ≤ a2) = true := decide_eq_true c47
    clear c47
    by_cases c48 : a2 < (x240001_1.length : Int)
    rotate_left
    ·
     rw [if_neg c48] at H
     exact absurd H (by simp)
    rw [if_pos c48] at H
    have c48b0 : decide (a2 < (x240001_1.length : Int)) = true := decide_eq_true c48
    clear c48
    obtain ⟨y253, hy253⟩ : ∃ y_ : List Int, y_ = (x240001_1.set (a2 : Int).toNat x240002_1) := ⟨_, rfl⟩
    replace H : (some (x240000_1, y253, wrap64 (x240002_1 + 1))) = some (r1, r2, r3) := by first | (rw [hy253]; exact H) | exact H
    have Ny253 := ak hy253
    clear hy253
    simp only [Option.some.injEq, Prod.mk.injEq] at H
    obtain ⟨rfl, rfl, rfl⟩ := H
    have hnb50 := NB238_239.out
    have hnc50 := NB239_238.out
    have hnb51 := NB238_240.out
    have hnc51 := NB240_238.out
    have hcz52_0 : wr.cell? ⟨gb238, 0, none⟩ = some (.int .i64 a0_0) := (blk_cell BK238.out 0).trans rfl
    have hcz52_1 : wr.cell? ⟨gb238, 1, none⟩ = some (.slice A0_1 l0_1.length c0_1) := (blk_cell BK238.out 1).trans rfl
    have hfz52_0 := blk_frozen BK238.out 0
    have hfz52_1 := blk_frozen BK238.out 1
    have hnb53 := NB239_240.out
    have hnc53 := NB240_239.out
    have hcz54_0 : wr.cell? ⟨gb239, 0, none⟩ = some (u240000) := (blk_cell BK239.out 0).trans rfl
    have hcz54_1 : wr.cell? ⟨gb239, 1, none⟩ = some (u240001) := (blk_cell BK239.out 1).trans rfl
    have hcz54_2 : wr.cell? ⟨gb239, 2, none⟩ = some (.int .i64 x240002_1) := (blk_cell BK239.out 2).trans rfl
    have hfz54_0 := blk_frozen BK239.out 0
    have hfz54_1 := blk_frozen BK239.out 1
    have hfz54_2 := blk_frozen BK239.out 2
    have p49 : 0 ≤ (a2 : Int) := oda
    have q49 : (a2 : Int) < ((x240001_1.length : Int) : Int) := oda
    obtain ⟨go49, co49, eo49, gb49, gl49, cl49, HG49⟩ := Kd.R_form HO_240001.out (by omega)
    (first | cases eo49 | (injection eo49 with ea_ en_ ec_; (first | subst ea_ | (injection ea_ with ea_; subst ea_)); subst ec_; clear en_))
    have GB49 := ak gb49
    have GG49 := ak HG49
    clear gb49 gl49 HG49
    have HMgo49 := ak (show ((P1_0_ go49 ∨ P1_1_ go49) ∨ w.heap.size ≤ go49) from (HO_240001.out.1 _ rfl).1)
    obtain ⟨hx49_0, hf49_0⟩ := Kd.R_celln 0 HO_240001.out (a2 : Int) p49 q49
    replace p49 := eq_true p49
    replace q49 := eq_true q49
    have HP55 := Kd.R_putg HO_240001.out (a2 : Int) x240002_1
    go_wp2_with (first | ((with_reducible refine gate_store (t := 3) (p := 60) rfl ?_); refine store_event (t := 3) (p := 60) (v := ?vo_w56) (w1 := (wr.setCell ⟨go49, (a2 : Int).toNat, none⟩ (.int .i64 x240002_1))) ?hg ?ho ?hn ?hr ?_; (case ho => rfl); (case hg => rfl); (case hn => rfl); (case hr => first | (go_simp; done) | (go_simp; rfl)); intro w56 hw; have hg : wr.grownBy w56 (some go49) := (by rw [hw]; exact HP55.2); have hp_ : Kd.R (Kd.int .i64) 3 w56 w0.heap.size (fun k_ => ((P1_0_ k_ ∨ P1_1_ k_) ∨ w.heap.size ≤ k_) ∧ some k_ ≠ (u240000 : Value).ownBlock) (.slice (some ⟨go49, 0, none⟩) x240001_1.length co49) y253 := (by rw [hw, Ny253.out]; exact HP55.1); clear HP55; have n0_ := ak (Kd.R_after (v := (.slice (some ⟨go49, 0, none⟩) x240001_1.length co49)) (v1 := (.slice (some ⟨go49, 0, none⟩) x240001_1.length co49)) (ok := (fun k_ => ((P1_0_ k_ ∨ P1_1_ k_) ∨ w.heap.size ≤ k_))) (rx HO_240000.out) hg (.inl rfl)); have n1_ := ak (hp_); have n2_ := ak (blk_grown (bx BK238.out) hg (Kd.R_ne HO_240001.out BK238.out (by decide))); have n3_ := ak (blk_grown (bx BK239.out) hg (Kd.R_ne HO_240001.out BK239.out (by decide))); have n4_ := ak (blk_grown (bx BK240.out) hg (Kd.R_ne HO_240001.out BK240.out (by decide))); have n5_ := ak ((by rw [hw]; exact below_set (HB.out) GB49.out : Below w0.heap.size w0 w56)); have n6_ := ak (Kept.of_grown (S := (fun k_ => P1_0_ k_ ∨ P1_1_ k_)) hg lk (fun k_ e_ => (HO_240001.out.1 k_ e_).1)); clear HO_240000; clear HO_240001; clear BK238; clear BK239; clear BK240; clear HB; clear HK; have HO_240000 := n0_; have HO_240001 := n1_; have BK238 := n2_; have BK239 := n3_; have BK240 := n4_; have HB := n5_; have HK := n6_; clear n0_ n1_ n2_ n3_ n4_ n5_ n6_; clear hg hw hp_; have hcz57_0 : w56.cell? ⟨gb239, 0, none⟩ = some (u240000) := (blk_cell BK239.out 0).trans rfl; have hcz57_1 : w56.cell? ⟨gb239, 1, none⟩ = some (.slice (some ⟨go49, 0, none⟩) x240001_1.length co49) := (blk_cell BK239.out 1).trans rfl; have hcz57_2 : w56.cell? ⟨gb239, 2, none⟩ = some (.int .i64 x240002_1) := (blk_cell BK239.out 2).trans rfl; have hfz57_0 := blk_frozen BK239.out 0; have hfz57_1 := blk_frozen BK239.out 1; have hfz57_2 := blk_frozen BK239.out 2; obtain ⟨Ao58, co58, eo58⟩ := Kd.R_slice HO_240000.out; subst eo58; have hcz59_0 : w56.cell? ⟨gb240, 0, none⟩ = some (.slice none 0 0) := (blk_cell BK240.out 0).trans rfl; have hcz59_1 : w56.cell? ⟨gb240, 1, none⟩ = some (.slice none 0 0) := (blk_cell BK240.out 1).trans rfl; have hcz59_2 : w56.cell? ⟨gb240, 2, none⟩ = some (.int .i64 0) := (blk_cell BK240.out 2).trans rfl; have hfz59_0 := blk_frozen BK240.out 0; have hfz59_1 := blk_frozen BK240.out 1; have hfz59_2 := blk_frozen BK240.out 2))
    refine bodyPost_ret (results_cell_row rfl _ _ gb240 66 #[.slice Ao58 x240000_1.length co58, .slice (some ⟨go49, 0, none⟩) x240001_1.length co49, .int .i64 (wrap64 (x240002_1 + 1))] (0, 0) _ rfl (by (with_reducible repeat (first | refine blk_drewN ?_ _ | refine blk_drew ?_ | refine blk_alloc ?_ _)); refine blk_put (cs := #[.slice Ao58 x240000_1.length co58, .slice (some ⟨go49, 0, none⟩) x240001_1.length co49, .int .i64 0]) ?_ 2 _ rfl; (with_reducible repeat (first | refine blk_drewN ?_ _ | refine blk_drew ?_ | refine blk_alloc ?_ _)); refine blk_put (cs := #[.slice Ao58 x240000_1.length co58, .slice none 0 0, .int .i64 0]) ?_ 1 _ rfl; (with_reducible repeat (first | refine blk_drewN ?_ _ | refine blk_drew ?_ | refine blk_alloc ?_ _)); refine blk_put (cs := #[.slice none 0 0, .slice none 0 0, .int .i64 0]) ?_ 0 _ rfl; (with_reducible repeat (first | refine blk_drewN ?_ _ | refine blk_drew ?_ | refine blk_alloc ?_ _)); refine blk_far ?_ NB240_239.out _; exact bx BK240.out) Try.underlying66 rfl (by kernel_rfl)) rfl ?_
    exact ⟨_, _, by first | rfl | (simp [errW_none, errW_some] <;> rfl) | (simp [*, errW_none, errW_some] <;> rfl), by exact rx (Kd.R_mono (Kd.R_far (p := ⟨gb240, 2, none⟩) (Kd.R_far (p := ⟨gb240, 1, none⟩) (Kd.R_far (p := ⟨gb240, 0, none⟩) (Kd.R_far (p := ⟨gb239, 2, none⟩) (Kd.R_types (Kd.R_types HO_240000.out BK239.out (by decide)) BK240.out (by decide)) (fun _ hk => hk.1.2) (.int .i64 (wrap64 (x240002_1 + 1)))) (fun _ hk => hk.2) (.slice Ao58 x240000_1.length co58)) (fun _ hk => hk.2) (.slice (some ⟨go49, 0, none⟩) x240001_1.length co49)) (fun _ hk => hk.2) (.int .i64 (wrap64 (x240002_1 + 1)))) (fun _ hk => ⟨hk.1.1.1, hk.1.1.2⟩)), by exact rx (Kd.R_mono (Kd.R_far (p := ⟨gb240, 2, none⟩) (Kd.R_far (p := ⟨gb240, 1, none⟩) (Kd.R_far (p := ⟨gb240, 0, none⟩) (Kd.R_far (p := ⟨gb239, 2, none⟩) (Kd.R_types (Kd.R_types HO_240001.out BK239.out (by decide)) BK240.out (by decide)) (fun _ hk => hk.1.2) (.int .i64 (wrap64 (x240002_1 + 1)))) (fun _ hk => hk.2) (.slice Ao58 x240000_1.length co58)) (fun _ hk => hk.2) (.slice (some ⟨go49, 0, none⟩) x240001_1.length co49)) (fun _ hk => hk.2) (.int .i64 (wrap64 (x240002_1 + 1)))) (fun _ hk => ⟨hk.1.1.1, hk.1.1.2⟩)), lb, lk⟩
end Go.Proofs.Ytacklfnnpiobgaa.Q
