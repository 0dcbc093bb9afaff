-- PRINTED by print.py (a twelfth state) out of the translation. Not trusted: Lean checks it.
import Derived.Test.YtplbkggdnonfbaaQ0
import Derived.Test.YtplbkggdnonfbaaQ9
namespace Go.Proofs.Ytplbkggdnonfbaa.Q
open Go.RowKit Go.Proofs.YtplbkggdnonfbaaW.PrintWords Go.Proofs.YtplbkggdnonfbaaW.PrintLast Go.Proofs.YtplbkggdnonfbaaW.PrintMore
attribute [local go_sem] max2_int min2_int max_two min_two max_three min_three max_four min_four   -- for this text's walks alone
set_option linter.unusedVariables false
set_option linter.unusedSimpArgs false

theorem owb {A : Option Addr} {n m c c' k : Nat} (h : some k ≠ (Value.slice A n c).ownBlock) : some k ≠ (Value.slice A m c').ownBlock := by
  cases A <;> exact h
set_option maxHeartbeats 8000000 in
set_option maxRecDepth 100000 in
theorem euler_circuit.calls (k : Nat) (a0_0 : Int) (A0_1 : Option Addr) (c0_1 : Nat) (l0_1 : List (S45)) (a1 : Int) (P2_ : Nat → Prop) (u9000_ : Value) (l2 : List (List (S51))) (r1 : List (S51)) (r2 : List (List (S51))) (w0 w : World) (hB : Below w0.heap.size w0 w) (hr0_1 : ∀ W_, Kept w W_ (fun k_ => P2_ k_) → Kd.C k45 W_ A0_1 l0_1.length l0_1) (hc0_1 : l0_1.length ≤ c0_1) (ho2 : Kd.R (Kd.slice 51 k51) 26 w w0.heap.size P2_ u9000_ l2) (h : euler_circuit.f k a0_0 l0_1 a1 l2 = some (r1, r2)) :
    Calls Try.prog 23 #[.agg #[.int .i64 a0_0, .slice A0_1 l0_1.length c0_1], .int .i64 a1, u9000_] w fun e w' => ∃ v0_ : Value, e = .returned (v0_) ∧ Kd.R k51 51 w' w0.heap.size (fun k_ => (P2_ k_ ∨ w.heap.size ≤ k_)) v0_ r1 ∧ Kd.N (Kd.slice 51 k51) 26 w' w0.heap.size (fun k_ => (P2_ k_ ∨ w.heap.size ≤ k_)) u9000_ r2 ∧ Below w0.heap.size w0 w' ∧ Kept w w' (fun k_ => P2_ k_) := by
 have hu24 := Try.underlying24
 have hu51 := Try.underlying51
 have HR0_1 := ak hr0_1
 have HC0_1 := ak hc0_1
 clear hr0_1 hc0_1
 have HO2 := ak (show Kd.N (Kd.slice 51 k51) 26 w w0.heap.size (fun k_ => (P2_ k_ ∨ w.heap.size ≤ k_)) u9000_ l2 from Kd.N_mono (Kd.R_N ho2) (fun k_ hk => (.inl hk)))
 have HK := ak (Kept.refl w (fun k_ => P2_ k_))
 have HW0 := ak hB.size
 have HB := ak hB
 clear hB
 have H : (if 0 ≤ (l0_1.length : Int) then (if ((l0_1.length : Int) : Int).toNat ≤ 281474976710656 then (euler_circuit.l0 k l2 (List.replicate ((l0_1.length : Int) : Int).toNat false) (([a1] : List Int)) (([] : List (S51))) ([] : List (S51)) a0_0 l0_1) else (none)) else (none)) = some (r1, r2) := h
 clear h
 by_cases c4 : 0 ≤ (l0_1.length : Int)
 rotate_left
 ·
  rw [if_neg c4] at H
  exact absurd H (by simp)

 rw [if_pos c4] at H
 have c4b0 := eq_true c4
 have c4b1 : decide (0 ≤ (l0_1.length : Int)) = true := decide_eq_true c4
 clear c4
 by_cases c5 : ((l0_1.length : Int) : Int).toNat ≤ 281474976710656
 rotate_left
 ·
  rw [if_neg c5] at H
  exact absurd H (by simp)
 rw [if_pos c5] at H
 have c5b0 := eq_true c5
 have c5b1 : decide (((l0_1.length : Int) : Int).toNat ≤ 281474976710656) = true := decide_eq_true c5
 clear c5
 obtain ⟨y184, hy184⟩ : ∃ y_ : List Bool, y_ = (List.replicate ((l0_1.length : Int) : Int).toNat false) := ⟨_, rfl⟩
 replace H : (euler_circuit.l0 k l2 y184 (([a1] : List Int)) (([] : List (S51))) ([] : List (S51)) a0_0 l0_1) = some (r1, r2) := by first | (rw [hy184]; exact H) | exact H
 have Ny184 := ak hy184
 clear hy184
 obtain ⟨y187, hy187⟩ : ∃ y_ : List Int, y_ = (([a1] : List Int)) := ⟨_, rfl⟩
 replace H : (euler_circuit.l0 k l2 y184 y187 (([] : List (S51))) ([] : List (S51)) a0_0 l0_1) = some (r1, r2) := by first | (rw [hy187]; exact H) | exact H
 have Ny187 := ak hy187
 clear hy187
 obtain ⟨y190, hy190⟩ : ∃ y_ : List (S51), y_ = (([] : List (S51))) := ⟨_, rfl⟩
 replace H : (euler_circuit.l0 k l2 y184 y187 y190 ([] : List (S51)) a0_0 l0_1) = some (r1, r2) := by first | (rw [hy190]; exact H) | exact H
 have Ny190 := ak hy190
 clear hy190
 have H' := ak H
 clear H
 go_enter Try.func23, Try.ntmps23
 go_wp2_with (first | go_step3 | (with_reducible refine Eq.mpr Exit.noGoto_normal ?_) | (with_reducible refine Eq.mpr Exit.noGoto_ret ?_) | (with_reducible refine Eq.mpr (Exit.noGoto_exit _) ?_) | ((with_reducible refine gate_dst (N := 3) rfl ?_); refine box_event ?hg (N := 3) ?hd (cs := #[.int .i64 a0_0, .slice A0_1 l0_1.length c0_1]) (t := 24) ?hr ?_; (case hd => rfl); (case hg => rfl); (case hr => first | (go_simp; done) | (go_simp; rfl)); intro gb183 hg w6 hbox hb; have n0_ := ak (Kd.N_below (Kd.N_elderB (nx HO2.out) gb183 (Nat.le_of_eq hg.symm)) hb); have n1_ := ak (Kept.below (S := (fun k_ => P2_ k_)) lk hb); have n2_ := ak (below_step lb hb); have n3_ := ak (hbox); have n4_ := ak ((by rw [hg]; exact (by first | exact HK.out.1 | exact (show Kept w _ (fun k_ => P2_ k_) from lk).1) : w.heap.size ≤ gb183)); have n5_ := ak ((by rw [hg]; exact (below_size lb) : w0.heap.size ≤ gb183)); clear HO2; clear HK; clear HB; have HO2 := n0_; have HK := n1_; have HB := n2_; have BK183 := n3_; have GW183 := n4_; have GE183 := n5_; clear n0_ n1_ n2_ n3_ n4_ n5_; clear hb hbox hg; have hcz7_0 : w6.cell? ⟨gb183, 0, none⟩ = some (.int .i64 a0_0) := (blk_cell BK183.out 0).trans rfl; have hcz7_1 : w6.cell? ⟨gb183, 1, none⟩ = some (.slice A0_1 l0_1.length c0_1) := (blk_cell BK183.out 1).trans rfl; have hfz7_0 := blk_frozen BK183.out 0; have hfz7_1 := blk_frozen BK183.out 1) | ((with_reducible refine gate_dst (N := 17) rfl ?_); refine Kd.R_make Kd.bool _ 4 rfl (N := 17) rfl 67 _ _ rfl (l0_1.length : Int) rfl rfl Try.underlying67 (.bool false) 1 info4 rfl (by decide) (by omega) false (ok := fun _ => True) (okp := fun _ => True) rfl (fun _ hk => hk) trivial (oda) (Nat.le_trans (Nat.mul_le_mul_right _ (oda : (l0_1.length : Int).toNat ≤ 281474976710656)) (by omega)) (Below.refl _ _) (Nat.le_refl _) ?_; intro v185 w8 ho9 hb hg_ hnew_; clear hg_ hnew_; (first | rw [← Ny184.out] at ho9 | (simp only [Int.reduceToNat] at ho9; rw [← Ny184.out] at ho9)); have n0_ := ak (Kd.N_elder' (nx HO2.out) (Kd.R_base ho9) hb); have n1_ := ak (Kd.R_lower (Kd.R_newM (M := fun k_ => (P2_ k_ ∨ w.heap.size ≤ k_)) ho9 (by first | exact HK.out.1 | exact (show Kept w _ (fun k_ => P2_ k_) from lk).1) (fun k_ h_ => .inr h_)) (below_size lb)); have n2_ := ak (blk_below (bx BK183.out) hb); have n3_ := ak (Kept.below (S := (fun k_ => P2_ k_)) lk hb); have n4_ := ak (below_step lb hb); clear HO2; clear BK183; clear HK; clear HB; have HO2 := n0_; have HO186 := n1_; have BK183 := n2_; have HK := n3_; have HB := n4_; clear n0_ n1_ n2_ n3_ n4_; clear hb ho9) | ((with_reducible refine gate_dst (N := 19) rfl ?_); refine Kd.R_lit (Kd.int .i64) _ 3 ?hg (N := 19) ?hd (xs := ([a1] : List Int)) (inner := [.int .i64 a1]) (ok := fun _ => True) (okp := fun _ => True) ?hr ?hp (fun _ hk => hk) trivial (Below.refl _ _) (Nat.le_refl _) (by simp) ?_; (case hd => rfl); (case hg => rfl); (case hr => first | (go_simp; done) | (go_simp; rfl)); (case hp => exact (Reps.one (show Kd.M (Kd.int .i64) _ _ _ a1 [.int .i64 a1] from rfl) (Reps.none _ _))); intro v188 w10 ho11 hb hg_ hnew_; clear hg_ hnew_; (first | rw [← Ny187.out] at ho11 | (simp only [Int.reduceToNat] at ho11; rw [← Ny187.out] at ho11)); have n0_ := ak (Kd.N_elder' (nx HO2.out) (Kd.R_base ho11) hb); have n1_ := ak (Kd.R_below (rx HO186.out) hb); have n2_ := ak (Kd.R_lower (Kd.R_newM (M := fun k_ => (P2_ k_ ∨ w.heap.size ≤ k_)) ho11 (by first | exact HK.out.1 | exact (show Kept w _ (fun k_ => P2_ k_) from lk).1) (fun k_ h_ => .inr h_)) (below_size lb)); have n3_ := ak (blk_below (bx BK183.out) hb); have n4_ := ak (Kept.below (S := (fun k_ => P2_ k_)) lk hb); have n5_ := ak (below_step lb hb); clear HO2; clear HO186; clear BK183; clear HK; clear HB; have HO2 := n0_; have HO186 := n1_; have HO189 := n2_; have BK183 := n3_; have HK := n4_; have HB := n5_; clear n0_ n1_ n2_ n3_ n4_ n5_; clear hb ho11) | ((with_reducible refine gate_dst (N := 20) rfl ?_); refine Kd.R_lit k51 _ 51 ?hg (N := 20) ?hd (xs := ([] : List (S51))) (inner := []) (ok := fun _ => True) (okp := fun _ => True) ?hr ?hp (fun _ hk => hk) trivial (Below.refl _ _) (Nat.le_refl _) (by simp) ?_; (case hd => rfl); (case hg => rfl); (case hr => first | (go_simp; done) | (go_simp; rfl)); (case hp => exact (Reps.none _ _)); intro v191 w12 ho13 hb hg_ hnew_; clear hg_ hnew_; (first | rw [← Ny190.out] at ho13 | (simp only [Int.reduceToNat] at ho13; rw [← Ny190.out] at ho13)); have n0_ := ak (Kd.N_elder' (nx HO2.out) (Kd.R_base ho13) hb); have n1_ := ak (Kd.R_below (rx HO186.out) hb); have n2_ := ak (Kd.R_below (rx HO189.out) hb); have n3_ := ak (Kd.R_lower (Kd.R_newM (M := fun k_ => (P2_ k_ ∨ w.heap.size ≤ k_)) ho13 (by first | exact HK.out.1 | exact (show Kept w _ (fun k_ => P2_ k_) from lk).1) (fun k_ h_ => .inr h_)) (below_size lb)); have n4_ := ak (blk_below (bx BK183.out) hb); have n5_ := ak (Kept.below (S := (fun k_ => P2_ k_)) lk hb); have n6_ := ak (below_step lb hb); clear HO2; clear HO186; clear HO189; clear BK183; clear HK; clear HB; have HO2 := n0_; have HO186 := n1_; have HO189 := n2_; have HO192 := n3_; have BK183 := n4_; have HK := n5_; have HB := n6_; clear n0_ n1_ n2_ n3_ n4_ n5_ n6_; clear hb ho13))
 go_loopg [8, 9, 10] k (fun kq v8 v9 v10 w' => ∃ (x2_1 : List (List (S51))) (x7_1 : List Bool) (x8_1 : List Int) (x9_1 : List (S51)) (x10_1 : List (S51)), Aside0 (euler_circuit.l0 kq x2_1 x7_1 x8_1 x9_1 x10_1 a0_0 l0_1 = some (r1, r2)) ∧ Aside0 (kq ≤ k) ∧ Aside0 (Kd.N (Kd.slice 51 k51) 26 w' w0.heap.size (fun k_ => (P2_ k_ ∨ w.heap.size ≤ k_) ∧ some k_ ≠ (v185 : Value).ownBlock ∧ some k_ ≠ (v8 : Value).ownBlock ∧ some k_ ≠ (v9 : Value).ownBlock ∧ some k_ ≠ (v10 : Value).ownBlock ∧ k_ ≠ gb183) u9000_ x2_1) ∧ Aside0 (Kd.R Kd.bool 4 w' w0.heap.size (fun k_ => (P2_ k_ ∨ w.heap.size ≤ k_)) v185 x7_1) ∧ Aside0 (Kd.R (Kd.int .i64) 3 w' w0.heap.size (fun k_ => (P2_ k_ ∨ w.heap.size ≤ k_)) v8 x8_1) ∧ Aside0 (Kd.R k51 51 w' w0.heap.size (fun k_ => (P2_ k_ ∨ w.heap.size ≤ k_) ∧ some k_ ≠ (v10 : Value).ownBlock) v9 x9_1) ∧ Aside0 (Kd.R k51 51 w' w0.heap.size (fun k_ => (P2_ k_ ∨ w.heap.size ≤ k_) ∧ some k_ ≠ (v9 : Value).ownBlock) v10 x10_1) ∧ Aside0 (w'.heap[gb183]? = some (.cells #[.int .i64 a0_0, (.slice A0_1 l0_1.length c0_1)] 24 (0, 0))) ∧ Aside0 (Kept w w' (fun k_ => P2_ k_)) ∧ Aside0 (Below w0.heap.size w0 w'))
 case atStart => exact ⟨(l2), (y184), (y187), (y190), (([] : List (S51))), H', ⟨Nat.le_refl _⟩, ⟨by exact nx (Kd.N_mono HO2.out (fun _ hk => ⟨hk.1.1.1.1, ⟨hk.1.1.2, ⟨hk.1.2, ⟨hk.2, ⟨(by simp [Value.ownBlock]), hk.1.1.1.2⟩⟩⟩⟩⟩))⟩, ⟨by exact rx (Kd.R_mono HO186.out (fun _ hk => hk.1))⟩, ⟨by exact rx (Kd.R_mono HO189.out (fun _ hk => hk.1))⟩, ⟨by exact rx (Kd.R_mono HO192.out (fun _ hk => ⟨hk.1, (by simp [Value.ownBlock])⟩))⟩, ⟨by first | exact Kd.R_nil _ _ _ _ _ | exact Kd.N_nil _ _ _ _ _ | exact Kd.V_nil _ _ _ _ _ | exact Kd.Q_nil _ _ _ _ _ | exact Kd.S_nil _ _ _ _ _⟩, ⟨bx BK183.out⟩, ⟨lk⟩, ⟨lb⟩⟩
 case round =>
  clear H'
  try clear c2; try clear p2; try clear c4; try clear c4b0; try clear c4b1; try clear c5; try clear c5b0; try clear c5b1; try clear hcz7_0; try clear hcz7_1; try clear hfz7_0; try clear hfz7_1
  obtain ⟨x2_1, x7_1, x8_1, x9_1, x10_1, HA, HK1, HO_2, HO_7, HO_8, HO_9, HO_10, BK183, HK, HB⟩ := hrel
  cases gk with
  | zero => exact absurd HA.out (by simp [euler_circuit.l0])
  | succ k1 =>
   have H := HA.out
   clear HA
   simp only [euler_circuit.l0] at H
   obtain ⟨ji14, hji14⟩ : ∃ j_ : Int, (wrap64 ((x8_1.length : Int) - 1)) = j_ := ⟨_, rfl⟩
   replace H : (if 0 ≤ (ji14) then (if (ji14) < (x8_1.length : Int) then (euler_circuit.l1 k1 x2_1 x7_1 x8_1 x9_1 x10_1 (rd x8_1 (ji14)) a0_0 l0_1) else (none)) else (none)) = some (r1, r2) := by first | (rw [hji14] at H; exact H) | (simp only [hji14] at H ⊢; exact H)
   have hji14w : (IntKind.i64.wrap ((x8_1.length : Int) - 1)) = ji14 := (i64_w _).trans hji14
   by_cases c15 : 0 ≤ (ji14)
   rotate_left
   ·
    rw [if_neg c15] at H
    exact absurd H (by simp)
   rw [if_pos c15] at H
   have c15b0 : decide (0 ≤ (ji14)) = true := decide_eq_true c15
   clear c15
   by_cases c16 : (ji14) < (x8_1.length : Int)
   rotate_left
   ·
    rw [if_neg c16] at H
    exact absurd H (by simp)
   rw [if_pos c16] at H
   have c16b0 : decide ((ji14) < (x8_1.length : Int)) = true := decide_eq_true c16
   clear c16
   have H' := ak H
   clear H
   obtain ⟨Ao17, co17, eo17⟩ := Kd.R_slice HO_8.out
   subst eo17
   have p193 : 0 ≤ ((ji14) : Int) := oda
   have q193 : (ji14) < (x8_1.length : Int) := oda
   obtain ⟨ad193, e193, hx193_0⟩ := Kd.at_int (Kd.R_reads' HO_8.out).2.2 (ji14) p193 q193
   cases e193
   replace p193 := eq_true p193
   replace q193 := eq_true q193
   go_wp2_with (first | go_step3 | (with_reducible refine Eq.mpr Exit.noGoto_normal ?_) | (with_reducible refine Eq.mpr Exit.noGoto_ret ?_) | (with_reducible refine Eq.mpr (Exit.noGoto_exit _) ?_))
   go_loopg [8, 9] k1 (fun kq v8 v9 w' => ∃ (x2_2 : List (List (S51))) (x7_2 : List Bool) (x8_2 : List Int) (x9_2 : List (S51)), Aside0 (euler_circuit.l1 kq x2_2 x7_2 x8_2 x9_2 x10_1 (rd x8_1 (ji14)) a0_0 l0_1 = some (r1, r2)) ∧ Aside0 (kq ≤ k1) ∧ Aside0 (Kd.N (Kd.slice 51 k51) 26 w' w0.heap.size (fun k_ => (P2_ k_ ∨ w.heap.size ≤ k_) ∧ some k_ ≠ (v185 : Value).ownBlock ∧ some k_ ≠ (v8 : Value).ownBlock ∧ some k_ ≠ (v9 : Value).ownBlock ∧ some k_ ≠ (u10 : Value).ownBlock ∧ k_ ≠ gb183) u9000_ x2_2) ∧ Aside0 (Kd.R Kd.bool 4 w' w0.heap.size (fun k_ => (P2_ k_ ∨ w.heap.size ≤ k_)) v185 x7_2) ∧ Aside0 (Kd.R (Kd.int .i64) 3 w' w0.heap.size (fun k_ => (P2_ k_ ∨ w.heap.size ≤ k_)) v8 x8_2) ∧ Aside0 (Kd.R k51 51 w' w0.heap.size (fun k_ => (P2_ k_ ∨ w.heap.size ≤ k_) ∧ some k_ ≠ (u10 : Value).ownBlock) v9 x9_2) ∧ Aside0 (Kd.R k51 51 w' w0.heap.size (fun k_ => (P2_ k_ ∨ w.heap.size ≤ k_) ∧ some k_ ≠ (v9 : Value).ownBlock) u10 x10_1) ∧ Aside0 (w'.heap[gb183]? = some (.cells #[.int .i64 a0_0, (.slice A0_1 l0_1.length c0_1)] 24 (0, 0))) ∧ Aside0 (Kept w w' (fun k_ => P2_ k_)) ∧ Aside0 (Below w0.heap.size w0 w'))
   case atStart => exact ⟨(x2_1), (x7_1), (x8_1), (x9_1), H', ⟨Nat.le_refl _⟩, ⟨nx HO_2.out⟩, ⟨rx HO_7.out⟩, ⟨rx HO_8.out⟩, ⟨rx HO_9.out⟩, ⟨rx HO_10.out⟩, ⟨bx BK183.out⟩, ⟨lk⟩, ⟨lb⟩⟩
   case round =>
    clear H'
    try clear c1; try clear p1; try clear q1; try clear hx1; try clear c2; try clear p2; try clear c4; try clear c4b0; try clear c4b1; try clear c5; try clear c5b0; try clear c5b1; try clear p6; try clear c15; try clear c15b0; try clear c16; try clear c16b0; try clear hcz7_0; try clear hcz7_1; try clear hfz7_0; try clear hfz7_1; try clear hx193_0; try clear p193; try clear p2; try clear q193
    obtain ⟨x2_2, x7_2, x8_2, x9_2, HA, HK2, HO_2, HO_7, HO_8, HO_9, HO_10, BK183, HK, HB⟩ := hrel
    cases gk with
    | zero => exact absurd HA.out (by simp [euler_circuit.l1])
    | succ k2 =>
     have H := HA.out
     clear HA
     simp only [euler_circuit.l1] at H
     by_cases c18 : 0 ≤ (rd x8_1 (ji14))
     rotate_left
     ·
      rw [if_neg c18] at H
      exact absurd H (by simp)
     rw [if_pos c18] at H
     have c18b0 : decide (0 ≤ (rd x8_1 (ji14))) = true := decide_eq_true c18
     clear c18
     by_cases c19 : (rd x8_1 (ji14)) < (x2_2.length : Int)
     rotate_left
     ·
      rw [if_neg c19] at H
      exact absurd H (by simp)
     rw [if_pos c19] at H
     have c19b0 : decide ((rd x8_1 (ji14)) < (x2_2.length : Int)) = true := decide_eq_true c19
     clear c19
     by_cases c20 : ((rd_L5 x2_2 (rd x8_1 (ji14))).length : Int) > 0
     ·
      rw [if_pos c20] at H
      have c20b0 : decide (0 < ((rd_L5 x2_2 (rd x8_1 (ji14))).length : Int)) = true := decide_eq_true c20
      have c20b1 : decide (0 < (rd_L5 x2_2 (rd x8_1 (ji14))).length) = true := decide_eq_true (by omega)
      clear c20
      by_cases c21 : 0 < ((rd_L5 x2_2 (rd x8_1 (ji14))).length : Int)
      rotate_left
      ·
       rw [if_neg c21] at H
       exact absurd H (by simp)
      rw [if_pos c21] at H
      have c21b0 : decide (0 < ((rd_L5 x2_2 (rd x8_1 (ji14))).length : Int)) = true := decide_eq_true c21
      have c21b1 : decide (0 < (rd_L5 x2_2 (rd x8_1 (ji14))).length) = true := decide_eq_true (by omega)
      clear c21
      by_cases c22 : 1 ≤ ((rd_L5 x2_2 (rd x8_1 (ji14))).length : Int)
      rotate_left
      ·
       rw [if_neg c22] at H
       exact absurd H (by simp)
      rw [if_pos c22] at H
      have c22b0 := eq_true c22
      have c22b1 : decide (1 ≤ ((rd_L5 x2_2 (rd x8_1 (ji14))).length : Int)) = true := decide_eq_true c22
      clear c22
      obtain ⟨y213, hy213⟩ : ∃ y_ : List (S51), y_ = ((rd_L5 x2_2 (rd x8_1 (ji14))).drop 1) := ⟨_, rfl⟩
      replace H : ((some (x2_2.set ((rd x8_1 (ji14)) : Int).toNat y213 : List (List (S51)))).bind fun y218 => (if 0 ≤ ((rd_T51 (rd_L5 x2_2 (rd x8_1 (ji14))) 0).f0) then (if ((rd_T51 (rd_L5 x2_2 (rd x8_1 (ji14))) 0).f0) < (x7_2.length : Int) then (if rdOf false x7_2 ((rd_T51 (rd_L5 x2_2 (rd x8_1 (ji14))) 0).f0) = true then (euler_circuit.l1 k2 y218 x7_2 x8_2 x9_2 x10_1 (rd x8_1 (ji14)) a0_0 l0_1) else ((some (x7_2.set (((rd_T51 (rd_L5 x2_2 (rd x8_1 (ji14))) 0).f0) : Int).toNat true : List Bool)).bind fun y220 => (if ((rd_T51 (rd_L5 x2_2 (rd x8_1 (ji14))) 0).f0) < (l0_1.length : Int) then (if (rd_T51 (rd_L5 x2_2 (rd x8_1 (ji14))) 0).f1 = true then ((some (([(rd_T45 l0_1 ((rd_T51 (rd_L5 x2_2 (rd x8_1 (ji14))) 0).f0)).f0] : List Int) : List Int)).bind fun y223 => (if x8_2.length + y223.length < 17592186044416 then ((some (([(⟨(rd_T51 (rd_L5 x2_2 (rd x8_1 (ji14))) 0).f0, (rd_T51 (rd_L5 x2_2 (rd x8_1 (ji14))) 0).f1⟩ : S51)] : List (S51)) : List (S51))).bind fun y229 => (if x9_2.length + y229.length < 8796093022208 then (euler_circuit.l0 k2 y218 y220 (x8_2 ++ y223) (x9_2 ++ y229) x10_1 a0_0 l0_1) else (none))) else (none))) else ((some (([(rd_T45 l0_1 ((rd_T51 (rd_L5 x2_2 (rd x8_1 (ji14))) 0).f0)).f1] : List Int) : List Int)).bind fun y235 => (if x8_2.length + y235.length < 17592186044416 then ((some (([(⟨(rd_T51 (rd_L5 x2_2 (rd x8_1 (ji14))) 0).f0, (rd_T51 (rd_L5 x2_2 (rd x8_1 (ji14))) 0).f1⟩ : S51)] : List (S51)) : List (S51))).bind fun y241 => (if x9_2.length + y241.length < 8796093022208 then (euler_circuit.l0 k2 y218 y220 (x8_2 ++ y235) (x9_2 ++ y241) x10_1 a0_0 l0_1) else (none))) else (none)))) else (none)))) else (none)) else (none))) = some (r1, r2) := by first | (rw [hy213]; exact H) | exact H
      have Ny213 := ak hy213
      clear hy213
      obtain ⟨y218, hy218⟩ : ∃ y_ : List (List (S51)), y_ = (x2_2.set ((rd x8_1 (ji14)) : Int).toNat y213) := ⟨_, rfl⟩
      replace H : (if 0 ≤ ((rd_T51 (rd_L5 x2_2 (rd x8_1 (ji14))) 0).f0) then (if ((rd_T51 (rd_L5 x2_2 (rd x8_1 (ji14))) 0).f0) < (x7_2.length : Int) then (if rdOf false x7_2 ((rd_T51 (rd_L5 x2_2 (rd x8_1 (ji14))) 0).f0) = true then (euler_circuit.l1 k2 y218 x7_2 x8_2 x9_2 x10_1 (rd x8_1 (ji14)) a0_0 l0_1) else ((some (x7_2.set (((rd_T51 (rd_L5 x2_2 (rd x8_1 (ji14))) 0).f0) : Int).toNat true : List Bool)).bind fun y220 => (if ((rd_T51 (rd_L5 x2_2 (rd x8_1 (ji14))) 0).f0) < (l0_1.length : Int) then (if (rd_T51 (rd_L5 x2_2 (rd x8_1 (ji14))) 0).f1 = true then ((some (([(rd_T45 l0_1 ((rd_T51 (rd_L5 x2_2 (rd x8_1 (ji14))) 0).f0)).f0] : List Int) : List Int)).bind fun y223 => (if x8_2.length + y223.length < 17592186044416 then ((some (([(⟨(rd_T51 (rd_L5 x2_2 (rd x8_1 (ji14))) 0).f0, (rd_T51 (rd_L5 x2_2 (rd x8_1 (ji14))) 0).f1⟩ : S51)] : List (S51)) : List (S51))).bind fun y229 => (if x9_2.length + y229.length < 8796093022208 then (euler_circuit.l0 k2 y218 y220 (x8_2 ++ y223) (x9_2 ++ y229) x10_1 a0_0 l0_1) else (none))) else (none))) else ((some (([(rd_T45 l0_1 ((rd_T51 (rd_L5 x2_2 (rd x8_1 (ji14))) 0).f0)).f1] : List Int) : List Int)).bind fun y235 => (if x8_2.length + y235.length < 17592186044416 then ((some (([(⟨(rd_T51 (rd_L5 x2_2 (rd x8_1 (ji14))) 0).f0, (rd_T51 (rd_L5 x2_2 (rd x8_1 (ji14))) 0).f1⟩ : S51)] : List (S51)) : List (S51))).bind fun y241 => (if x9_2.length + y241.length < 8796093022208 then (euler_circuit.l0 k2 y218 y220 (x8_2 ++ y235) (x9_2 ++ y241) x10_1 a0_0 l0_1) else (none))) else (none)))) else (none)))) else (none)) else (none)) = some (r1, r2) := by first | (rw [hy218]; exact H) | exact H
      have Ny218 := ak hy218
      clear hy218
      by_cases c24 : 0 ≤ ((rd_T51 (rd_L5 x2_2 (rd x8_1 (ji14))) 0).f0)
      rotate_left
      ·
       rw [if_neg c24] at H
       exact absurd H (by simp)
      rw [if_pos c24] at H
      have c24b0 : decide (0 ≤ ((rd_T51 (rd_L5 x2_2 (rd x8_1 (ji14))) 0).f0)) = true := decide_eq_true c24
      clear c24
      by_cases c25 : ((rd_T51 (rd_L5 x2_2 (rd x8_1 (ji14))) 0).f0) < (x7_2.length : Int)
      rotate_left
      ·
       rw [if_neg c25] at H
       exact absurd H (by simp)
      rw [if_pos c25] at H
      have c25b0 : decide (((rd_T51 (rd_L5 x2_2 (rd x8_1 (ji14))) 0).f0) < (x7_2.length : Int)) = true := decide_eq_true c25
      clear c25
      obtain ⟨bq26, hbq26⟩ : ∃ b_ : Bool, b_ = (rdOf false x7_2 ((rd_T51 (rd_L5 x2_2 (rd x8_1 (ji14))) 0).f0)) := ⟨_, rfl⟩
      replace H : (if bq26 = true then (euler_circuit.l1 k2 y218 x7_2 x8_2 x9_2 x10_1 (rd x8_1 (ji14)) a0_0 l0_1) else ((some (x7_2.set (((rd_T51 (rd_L5 x2_2 (rd x8_1 (ji14))) 0).f0) : Int).toNat true : List Bool)).bind fun y220 => (if ((rd_T51 (rd_L5 x2_2 (rd x8_1 (ji14))) 0).f0) < (l0_1.length : Int) then (if (rd_T51 (rd_L5 x2_2 (rd x8_1 (ji14))) 0).f1 = true then ((some (([(rd_T45 l0_1 ((rd_T51 (rd_L5 x2_2 (rd x8_1 (ji14))) 0).f0)).f0] : List Int) : List Int)).bind fun y223 => (if x8_2.length + y223.length < 17592186044416 then ((some (([(⟨(rd_T51 (rd_L5 x2_2 (rd x8_1 (ji14))) 0).f0, (rd_T51 (rd_L5 x2_2 (rd x8_1 (ji14))) 0).f1⟩ : S51)] : List (S51)) : List (S51))).bind fun y229 => (if x9_2.length + y229.length < 8796093022208 then (euler_circuit.l0 k2 y218 y220 (x8_2 ++ y223) (x9_2 ++ y229) x10_1 a0_0 l0_1) else (none))) else (none))) else ((some (([(rd_T45 l0_1 ((rd_T51 (rd_L5 x2_2 (rd x8_1 (ji14))) 0).f0)).f1] : List Int) : List Int)).bind fun y235 => (if x8_2.length + y235.length < 17592186044416 then ((some (([(⟨(rd_T51 (rd_L5 x2_2 (rd x8_1 (ji14))) 0).f0, (rd_T51 (rd_L5 x2_2 (rd x8_1 (ji14))) 0).f1⟩ : S51)] : List (S51)) : List (S51))).bind fun y241 => (if x9_2.length + y241.length < 8796093022208 then (euler_circuit.l0 k2 y218 y220 (x8_2 ++ y235) (x9_2 ++ y241) x10_1 a0_0 l0_1) else (none))) else (none)))) else (none)))) = some (r1, r2) := by rw [← hbq26] at H; exact H
      have Nbq26 := ak hbq26
      clear hbq26
      by_cases c27 : bq26 = true
      ·
       subst c27
       have H1 : (euler_circuit.l1 k2 y218 x7_2 x8_2 x9_2 x10_1 (rd x8_1 (ji14)) a0_0 l0_1) = some (r1, r2) := by rw [if_pos rfl] at H; exact H
       clear H
       have H := H1
       clear H1
       have H' := ak H
       clear H
       obtain ⟨Ao28, co28, eo28⟩ := Kd.N_slice HO_2.out
       subst eo28
       have p194 : 0 ≤ ((rd x8_1 (ji14)) : Int) := oda
       have q194 : (rd x8_1 (ji14)) < (x2_2.length : Int) := oda
       obtain ⟨ad194, A194_0, c194_0, e194, hx194_0, hl194_0, hi194_0⟩ := at_L5 (Kd.N_reads' HO_2.out).2.2 (rd x8_1 (ji14)) p194 q194
       cases e194
       obtain ⟨ce194, hce194, hMe194, hcc194⟩ := Kd.N_get HO_2.out [] (rd x8_1 (ji14)) p194 (by first | exact q194 | exact oda | (have e_ := (Kd.N_reads' HO_2.out).1; omega))
       obtain ⟨ua194_0, uc194_0, rfl, ul194_0, ge194_0⟩ := Kd.FK_slice_open hMe194
       have hv194_0 := hcc194 0 _ rfl
       rw [Nat.add_zero, show ((Kd.slice 51 k51)).sz = 1 from rfl, Nat.mul_one] at hv194_0
       replace hv194_0 := Option.some.inj (hv194_0.symm.trans hx194_0)
       injection hv194_0 with hva_ hvn_ hvc_
       rw [hva_] at ge194_0
       rw [hvc_] at ul194_0
       have HL194_0 := ak (show Kd.V k51 51 _ w0.heap.size _ _ (rd_L5 x2_2 (rd x8_1 (ji14))) from Kd.V_mk ul194_0 ge194_0)
       clear hva_ hvn_ hvc_ ge194_0 ul194_0
       clear hcc194 hce194
       have HR194_0 := ak hi194_0
       have HC194_0 := ak hl194_0
       clear hi194_0 hl194_0
       replace p194 := eq_true p194
       replace q194 := eq_true q194
       have p209 : 0 ≤ ((rd x8_1 (ji14)) : Int) := oda
       have q209 : (rd x8_1 (ji14)) < (x2_2.length : Int) := oda
       obtain ⟨ad209, A209_0, c209_0, e209, hx209_0, hl209_0, hi209_0⟩ := at_L5 (Kd.N_reads' HO_2.out).2.2 (rd x8_1 (ji14)) p209 q209
       obtain rfl : ad194 = ad209 := (by injection e209)
       obtain ⟨ce209, hce209, hMe209, hcc209⟩ := Kd.N_get HO_2.out [] (rd x8_1 (ji14)) p209 (by first | exact q209 | exact oda | (have e_ := (Kd.N_reads' HO_2.out).1; omega))
       obtain ⟨ua209_0, uc209_0, rfl, ul209_0, ge209_0⟩ := Kd.FK_slice_open hMe209
       have hv209_0 := hcc209 0 _ rfl
       rw [Nat.add_zero, show ((Kd.slice 51 k51)).sz = 1 from rfl, Nat.mul_one] at hv209_0
       replace hv209_0 := Option.some.inj (hv209_0.symm.trans hx209_0)
       injection hv209_0 with hva_ hvn_ hvc_
       rw [hva_] at ge209_0
       rw [hvc_] at ul209_0
       have HL209_0 := ak (show Kd.V k51 51 _ w0.heap.size _ _ (rd_L5 x2_2 (rd x8_1 (ji14))) from Kd.V_mk ul209_0 ge209_0)
       clear hva_ hvn_ hvc_ ge209_0 ul209_0
       clear hcc209 hce209
       have HR209_0 := ak hi209_0
       have HC209_0 := ak hl209_0
       clear hi209_0 hl209_0
       replace p209 := eq_true p209
       replace q209 := eq_true q209
       have ea_ := Option.some.inj (hx194_0.symm.trans hx209_0)
       injection ea_ with ea_ en_ ec_
       subst ea_
       subst ec_
       clear en_
       have p210 : 0 ≤ (0 : Int) := (by omega)
       have q210 : 0 < ((rd_L5 x2_2 (rd x8_1 (ji14))).length : Int) := oda
       obtain ⟨ad210, e210, hx210_0, hx210_1⟩ := at_T51 (by repeat (first | (with_reducible exact HR209_0.out) | (with_reducible refine Kd.C_alloc ?_ _) | (with_reducible refine Kd.C_drewN ?_ _) | (with_reducible refine Kd.C_drew ?_) | exact HR209_0.out)) 0 p210 q210
       (try rw [← Nbq26.out] at hx210_1)
       cases e210
       have qi210 : (0 < (rd_L5 x2_2 (rd x8_1 (ji14))).length) = True := eq_true (by omega)
       (try rw [show ((0 : Int)).toNat = 0 from rfl] at hx210_0)
       (try rw [show 0 * 2 = 0 from rfl] at hx210_0)
       (try rw [Addr.add_zero'] at hx210_0)
       (try rw [show ((0 : Int)).toNat = 0 from rfl] at hx210_1)
       (try rw [show 0 * 2 = 0 from rfl] at hx210_1)
       (try rw [Addr.add_zero'] at hx210_1)
       replace p210 := eq_true p210
       replace q210 := eq_true q210
       go_wp2_with (first | go_step3 | (with_reducible refine Eq.mpr Exit.noGoto_normal ?_) | (with_reducible refine Eq.mpr Exit.noGoto_ret ?_) | (with_reducible refine Eq.mpr (Exit.noGoto_exit _) ?_) | ((with_reducible refine gate_dst (N := 12) rfl ?_); refine box_event ?hg (N := 12) ?hd (cs := #[.int .i64 0, .bool false]) (t := 51) ?hr ?_; (case hd => rfl); (case hg => rfl); (case hr => first | (go_simp; done) | (go_simp; rfl)); intro gb211 hg w29 hbox hb; have n0_ := ak (Kd.N_below (Kd.N_elderB (nx HO_2.out) gb211 (Nat.le_of_eq hg.symm)) hb); have n1_ := ak (Kd.R_below (rx HO_7.out) hb); have n2_ := ak (Kd.R_below (rx HO_8.out) hb); have n3_ := ak (Kd.R_below (Kd.R_elderB (rx HO_9.out) gb211 (Nat.le_of_eq hg.symm)) hb); have n4_ := ak (Kd.R_below (Kd.R_elderB (rx HO_10.out) gb211 (Nat.le_of_eq hg.symm)) hb); have n5_ := ak (Kd.V_below (Kd.V_elderB (vx HL194_0.out) gb211 (Nat.le_of_eq hg.symm)) hb); have n6_ := ak (Kd.V_below (Kd.V_elderB (vx HL209_0.out) gb211 (Nat.le_of_eq hg.symm)) hb); have n7_ := ak (blk_below (bx BK183.out) hb); have n8_ := ak (Kd.C_below (by repeat (first | (with_reducible exact HR194_0.out) | (with_reducible refine Kd.C_alloc ?_ _) | (with_reducible refine Kd.C_drewN ?_ _) | (with_reducible refine Kd.C_drew ?_) | exact HR194_0.out)) hb); have n9_ := ak (Kd.C_below (by repeat (first | (with_reducible exact HR209_0.out) | (with_reducible refine Kd.C_alloc ?_ _) | (with_reducible refine Kd.C_drewN ?_ _) | (with_reducible refine Kd.C_drew ?_) | exact HR209_0.out)) hb); have n10_ := ak (Kept.below (S := (fun k_ => P2_ k_)) lk hb); have n11_ := ak (below_step lb hb); have n12_ := ak (hbox); have n13_ := ak ((by rw [hg]; exact (by first | exact HK.out.1 | exact (show Kept w _ (fun k_ => P2_ k_) from lk).1) : w.heap.size ≤ gb211)); have n14_ := ak ((by rw [hg]; exact (below_size lb) : w0.heap.size ≤ gb211)); have n15_ := ak ((by rw [hg]; exact Nat.ne_of_lt (blk_lt (g := gb183) (o := .cells #[.int .i64 a0_0, .slice A0_1 l0_1.length c0_1] 24 (0, 0)) (bx BK183.out)) : gb183 ≠ gb211)); have n16_ := ak ((by rw [hg]; exact Nat.ne_of_gt (blk_lt (g := gb183) (o := .cells #[.int .i64 a0_0, .slice A0_1 l0_1.length c0_1] 24 (0, 0)) (bx BK183.out)) : gb211 ≠ gb183)); clear HO_2; clear HO_7; clear HO_8; clear HO_9; clear HO_10; clear HL194_0; clear HL209_0; clear BK183; clear HR194_0; clear HR209_0; clear HK; clear HB; have HO_2 := n0_; have HO_7 := n1_; have HO_8 := n2_; have HO_9 := n3_; have HO_10 := n4_; have HL194_0 := n5_; have HL209_0 := n6_; have BK183 := n7_; have HR194_0 := n8_; have HR209_0 := n9_; have HK := n10_; have HB := n11_; have BK211 := n12_; have GW211 := n13_; have GE211 := n14_; have NB183_211 := n15_; have NB211_183 := n16_; clear n0_ n1_ n2_ n3_ n4_ n5_ n6_ n7_ n8_ n9_ n10_ n11_ n12_ n13_ n14_ n15_ n16_; clear hb hbox hg; have hnb30 := NB211_183.out; have hnc30 := NB183_211.out; have hcz31_0 : w29.cell? ⟨gb211, 0, none⟩ = some (.int .i64 0) := (blk_cell BK211.out 0).trans rfl; have hcz31_1 : w29.cell? ⟨gb211, 1, none⟩ = some (.bool false) := (blk_cell BK211.out 1).trans rfl; have hfz31_0 := blk_frozen BK211.out 0; have hfz31_1 := blk_frozen BK211.out 1) | ((with_reducible refine gate_store (t := 51) (p := 12) rfl ?_); refine store_event (t := 51) (p := 12) (v := ?vo_w32) (w1 := ((w29.setCell ⟨gb211, 0, none⟩ (.int .i64 ((rd_T51 (rd_L5 x2_2 (rd x8_1 (ji14))) 0).f0))).setCell ⟨gb211, 1, none⟩ (.bool ((rd_T51 (rd_L5 x2_2 (rd x8_1 (ji14))) 0).f1)))) ?hg ?ho ?hn ?hr ?_; (case ho => rfl); (case hg => rfl); (case hn => rfl); (case hr => first | (go_simp; done) | (go_simp; rfl)); intro w32 hw; have n0_ : Aside0 (Kd.N (Kd.slice 51 k51) 26 w32 w0.heap.size (fun k_ => (P2_ k_ ∨ w.heap.size ≤ k_) ∧ some k_ ≠ (v185 : Value).ownBlock ∧ some k_ ≠ (u8 : Value).ownBlock ∧ some k_ ≠ (u9 : Value).ownBlock ∧ some k_ ≠ (u10 : Value).ownBlock ∧ k_ ≠ gb183 ∧ k_ ≠ gb211) (.slice (some ad194) x2_2.length co28) x2_2) := ⟨(by rw [hw]; exact (by exact nx (Kd.N_mono (Kd.N_far (p := ⟨gb211, 1, none⟩) (Kd.N_far (p := ⟨gb211, 0, none⟩) (Kd.N_mono HO_2.out (fun k_ hk => (⟨hk, hk.2⟩ : _ ∧ k_ ≠ gb211))) (fun _ hk => hk.2) (.int .i64 ((rd_T51 (rd_L5 x2_2 (rd x8_1 (ji14))) 0).f0))) (fun _ hk => hk.2) (.bool ((rd_T51 (rd_L5 x2_2 (rd x8_1 (ji14))) 0).f1))) (fun _ hk => ⟨hk.1.1.1, ⟨hk.1.1.2.1, ⟨hk.1.1.2.2.1, ⟨hk.1.1.2.2.2.1, ⟨hk.1.1.2.2.2.2.1, ⟨hk.1.1.2.2.2.2.2, hk.1.2⟩⟩⟩⟩⟩⟩))))⟩; have n1_ : Aside0 (Kd.R Kd.bool 4 w32 w0.heap.size (fun k_ => (P2_ k_ ∨ w.heap.size ≤ k_)) v185 x7_2) := ⟨(by rw [hw]; exact (by exact rx (Kd.R_mono (Kd.R_far (p := ⟨gb211, 1, none⟩) (Kd.R_far (p := ⟨gb211, 0, none⟩) (Kd.R_types HO_7.out BK211.out (by decide)) (fun _ hk => hk.2) (.int .i64 ((rd_T51 (rd_L5 x2_2 (rd x8_1 (ji14))) 0).f0))) (fun _ hk => hk.2) (.bool ((rd_T51 (rd_L5 x2_2 (rd x8_1 (ji14))) 0).f1))) (fun _ hk => hk.1))))⟩; have n2_ : Aside0 (Kd.R (Kd.int .i64) 3 w32 w0.heap.size (fun k_ => (P2_ k_ ∨ w.heap.size ≤ k_)) u8 x8_2) := ⟨(by rw [hw]; exact (by exact rx (Kd.R_mono (Kd.R_far (p := ⟨gb211, 1, none⟩) (Kd.R_far (p := ⟨gb211, 0, none⟩) (Kd.R_types HO_8.out BK211.out (by decide)) (fun _ hk => hk.2) (.int .i64 ((rd_T51 (rd_L5 x2_2 (rd x8_1 (ji14))) 0).f0))) (fun _ hk => hk.2) (.bool ((rd_T51 (rd_L5 x2_2 (rd x8_1 (ji14))) 0).f1))) (fun _ hk => hk.1))))⟩; have n3_ : Aside0 (Kd.R k51 51 w32 w0.heap.size (fun k_ => (P2_ k_ ∨ w.heap.size ≤ k_) ∧ some k_ ≠ (u10 : Value).ownBlock ∧ k_ ≠ gb211) u9 x9_2) := ⟨(by rw [hw]; exact (by exact rx (Kd.R_mono (Kd.R_far (p := ⟨gb211, 1, none⟩) (Kd.R_far (p := ⟨gb211, 0, none⟩) (Kd.R_mono HO_9.out (fun k_ hk => (⟨hk, hk.2⟩ : _ ∧ k_ ≠ gb211))) (fun _ hk => hk.2) (.int .i64 ((rd_T51 (rd_L5 x2_2 (rd x8_1 (ji14))) 0).f0))) (fun _ hk => hk.2) (.bool ((rd_T51 (rd_L5 x2_2 (rd x8_1 (ji14))) 0).f1))) (fun _ hk => ⟨hk.1.1.1, ⟨hk.1.1.2, hk.1.2⟩⟩))))⟩; have n4_ : Aside0 (Kd.R k51 51 w32 w0.heap.size (fun k_ => (P2_ k_ ∨ w.heap.size ≤ k_) ∧ some k_ ≠ (u9 : Value).ownBlock ∧ k_ ≠ gb211) u10 x10_1) := ⟨(by rw [hw]; exact (by exact rx (Kd.R_mono (Kd.R_far (p := ⟨gb211, 1, none⟩) (Kd.R_far (p := ⟨gb211, 0, none⟩) (Kd.R_mono HO_10.out (fun k_ hk => (⟨hk, hk.2⟩ : _ ∧ k_ ≠ gb211))) (fun _ hk => hk.2) (.int .i64 ((rd_T51 (rd_L5 x2_2 (rd x8_1 (ji14))) 0).f0))) (fun _ hk => hk.2) (.bool ((rd_T51 (rd_L5 x2_2 (rd x8_1 (ji14))) 0).f1))) (fun _ hk => ⟨hk.1.1.1, ⟨hk.1.1.2, hk.1.2⟩⟩))))⟩; have n5_ : Aside0 (Kd.V k51 51 w32 w0.heap.size (fun k_ => (P2_ k_ ∨ w.heap.size ≤ k_) ∧ some k_ ≠ (.slice (some ad194) x2_2.length co28 : Value).ownBlock ∧ some k_ ≠ (v185 : Value).ownBlock ∧ some k_ ≠ (u8 : Value).ownBlock ∧ some k_ ≠ (u9 : Value).ownBlock ∧ some k_ ≠ (u10 : Value).ownBlock ∧ k_ ≠ gb183 ∧ k_ ≠ gb211) (.slice (some ad210) (rd_L5 x2_2 (rd x8_1 (ji14))).length c194_0) (rd_L5 x2_2 (rd x8_1 (ji14)))) := ⟨(by rw [hw]; exact (by exact vx (Kd.V_mono (Kd.V_far (p := ⟨gb211, 1, none⟩) (Kd.V_far (p := ⟨gb211, 0, none⟩) (Kd.V_mono HL194_0.out (fun k_ hk => (⟨hk, hk.2⟩ : _ ∧ k_ ≠ gb211))) (fun _ hk => hk.2) (.int .i64 ((rd_T51 (rd_L5 x2_2 (rd x8_1 (ji14))) 0).f0))) (fun _ hk => hk.2) (.bool ((rd_T51 (rd_L5 x2_2 (rd x8_1 (ji14))) 0).f1))) (fun _ hk => ⟨hk.1.1.1.1, ⟨hk.1.1.2, ⟨hk.1.1.1.2.1, ⟨hk.1.1.1.2.2.1, ⟨hk.1.1.1.2.2.2.1, ⟨hk.1.1.1.2.2.2.2.1, ⟨hk.1.1.1.2.2.2.2.2, hk.1.2⟩⟩⟩⟩⟩⟩⟩))))⟩; have n6_ : Aside0 (Kd.V k51 51 w32 w0.heap.size (fun k_ => (P2_ k_ ∨ w.heap.size ≤ k_) ∧ some k_ ≠ (.slice (some ad194) x2_2.length co28 : Value).ownBlock ∧ some k_ ≠ (v185 : Value).ownBlock ∧ some k_ ≠ (u8 : Value).ownBlock ∧ some k_ ≠ (u9 : Value).ownBlock ∧ some k_ ≠ (u10 : Value).ownBlock ∧ k_ ≠ gb183 ∧ k_ ≠ gb211) (.slice (some ad210) (rd_L5 x2_2 (rd x8_1 (ji14))).length c194_0) (rd_L5 x2_2 (rd x8_1 (ji14)))) := ⟨(by rw [hw]; exact (by exact vx (Kd.V_mono (Kd.V_far (p := ⟨gb211, 1, none⟩) (Kd.V_far (p := ⟨gb211, 0, none⟩) (Kd.V_mono HL209_0.out (fun k_ hk => (⟨hk, hk.2⟩ : _ ∧ k_ ≠ gb211))) (fun _ hk => hk.2) (.int .i64 ((rd_T51 (rd_L5 x2_2 (rd x8_1 (ji14))) 0).f0))) (fun _ hk => hk.2) (.bool ((rd_T51 (rd_L5 x2_2 (rd x8_1 (ji14))) 0).f1))) (fun _ hk => ⟨hk.1.1.1.1, ⟨hk.1.1.2, ⟨hk.1.1.1.2.1, ⟨hk.1.1.1.2.2.1, ⟨hk.1.1.1.2.2.2.1, ⟨hk.1.1.1.2.2.2.2.1, ⟨hk.1.1.1.2.2.2.2.2, hk.1.2⟩⟩⟩⟩⟩⟩⟩))))⟩; have n7_ : Aside0 (w32.heap[gb183]? = some (.cells #[.int .i64 a0_0, .slice A0_1 l0_1.length c0_1] 24 (0, 0))) := ⟨(by rw [hw]; exact (by (with_reducible repeat (first | refine blk_drewN ?_ _ | refine blk_drew ?_ | refine blk_alloc ?_ _)); refine blk_far ?_ NB183_211.out _; (with_reducible repeat (first | refine blk_drewN ?_ _ | refine blk_drew ?_ | refine blk_alloc ?_ _)); refine blk_far ?_ NB183_211.out _; exact bx BK183.out))⟩; have n8_ : Aside0 (w32.heap[gb211]? = some (.cells #[.int .i64 ((rd_T51 (rd_L5 x2_2 (rd x8_1 (ji14))) 0).f0), .bool ((rd_T51 (rd_L5 x2_2 (rd x8_1 (ji14))) 0).f1)] 51 (0, 0))) := ⟨(by rw [hw]; exact (by (with_reducible repeat (first | refine blk_drewN ?_ _ | refine blk_drew ?_ | refine blk_alloc ?_ _)); refine blk_put (cs := #[.int .i64 ((rd_T51 (rd_L5 x2_2 (rd x8_1 (ji14))) 0).f0), .bool false]) ?_ 1 _ rfl; (with_reducible repeat (first | refine blk_drewN ?_ _ | refine blk_drew ?_ | refine blk_alloc ?_ _)); refine blk_put (cs := #[.int .i64 0, .bool false]) ?_ 0 _ rfl; exact bx BK211.out))⟩; have n9_ : Aside0 (Kept w w32 (fun k_ => P2_ k_)) := ⟨(by rw [hw]; exact lk)⟩; have n10_ : Aside0 (Below w0.heap.size w0 w32) := ⟨(by rw [hw]; exact lb)⟩; clear hw; clear HO_2; clear HO_7; clear HO_8; clear HO_9; clear HO_10; clear HL194_0; clear HL209_0; clear BK183; clear BK211; clear HK; clear HB; have HO_2 := n0_; have HO_7 := n1_; have HO_8 := n2_; have HO_9 := n3_; have HO_10 := n4_; have HL194_0 := n5_; have HL209_0 := n6_; have BK183 := n7_; have BK211 := n8_; have HK := n9_; have HB := n10_; clear n0_ n1_ n2_ n3_ n4_ n5_ n6_ n7_ n8_ n9_ n10_; have p212 : 0 ≤ ((rd x8_1 (ji14)) : Int) := oda; have q212 : (rd x8_1 (ji14)) < (x2_2.length : Int) := oda; obtain ⟨ad212, A212_0, c212_0, e212, hx212_0, hl212_0, hi212_0⟩ := at_L5 (Kd.N_reads' HO_2.out).2.2 (rd x8_1 (ji14)) p212 q212; obtain rfl : ad194 = ad212 := (by injection e212); obtain ⟨ce212, hce212, hMe212, hcc212⟩ := Kd.N_get HO_2.out [] (rd x8_1 (ji14)) p212 (by first | exact q212 | exact oda | (have e_ := (Kd.N_reads' HO_2.out).1; omega)); obtain ⟨ua212_0, uc212_0, rfl, ul212_0, ge212_0⟩ := Kd.FK_slice_open hMe212; have hv212_0 := hcc212 0 _ rfl; rw [Nat.add_zero, show ((Kd.slice 51 k51)).sz = 1 from rfl, Nat.mul_one] at hv212_0; replace hv212_0 := Option.some.inj (hv212_0.symm.trans hx212_0); injection hv212_0 with hva_ hvn_ hvc_; rw [hva_] at ge212_0; rw [hvc_] at ul212_0; have HL212_0 := ak (show Kd.V k51 51 _ w0.heap.size _ _ (rd_L5 x2_2 (rd x8_1 (ji14))) from Kd.V_mk ul212_0 ge212_0); clear hva_ hvn_ hvc_ ge212_0 ul212_0; clear hcc212 hce212; have HR212_0 := ak hi212_0; have HC212_0 := ak hl212_0; clear hi212_0 hl212_0; replace p212 := eq_true p212; replace q212 := eq_true q212; have q33 : (1 : Int) ≤ (((rd_L5 x2_2 (rd x8_1 (ji14))).length : Int) : Int) := oda; obtain ⟨i033, hi033, _, hsz33, _⟩ := info_parts info51; have hroom33 : (rd_L5 x2_2 (rd x8_1 (ji14))).length ≤ c212_0 := HC212_0.out; have hC33 : Kd.F k51 _ _ A212_0 (rd_L5 x2_2 (rd x8_1 (ji14))).length (rd_L5 x2_2 (rd x8_1 (ji14))) := (Kd.V_at (base := w0.heap.size) HL212_0.out).2.2; have hcut33 := cut_from (P := Try.prog) 26 51 .i64 Try.underlying26 hi033 2 hsz33 A212_0 (rd_L5 x2_2 (rd x8_1 (ji14))).length c212_0 1 (by omega) q33; have hr33 := Kd.F_cut (m := (1 : Int).toNat) (c := c212_0) hC33 (by omega) hroom33; obtain ⟨A33, hA33⟩ : ∃ A1, A1 = (if c212_0 = (1 : Int).toNat then A212_0 else (A212_0 : Option Addr).map (·.add ((1 : Int).toNat * 2))) := ⟨_, rfl⟩; obtain ⟨c33, hc33⟩ : ∃ c1, c1 = c212_0 - (1 : Int).toNat := ⟨_, rfl⟩; have hy33 : y213.length = (rd_L5 x2_2 (rd x8_1 (ji14))).length - (1 : Int).toNat := (by rw [Ny213.out, List.length_drop] <;> omega); rw [show (rd_L5 x2_2 (rd x8_1 (ji14))).drop (1 : Int).toNat = y213 from Ny213.out.symm] at hr33; replace hr33 : Kd.F k51 _ _ A33 y213.length y213 := (by rw [hA33]; exact hr33); rw [← hy33, ← hA33, ← hc33] at hcut33; have HO217 := ak (show Kd.V k51 51 _ w0.heap.size _ (.slice A33 y213.length c33) y213 from Kd.V_mk (by rw [hy33, hc33]; exact Nat.sub_le_sub_right hroom33 _) hr33); have HC217 := ak (show y213.length ≤ c33 from by rw [hy33, hc33]; exact Nat.sub_le_sub_right hroom33 _); clear hr33 hC33 hroom33 hi033 hsz33 hc33; have KY33 := ak hy33; have KA33 := ak hA33; clear hy33 hA33; replace q33 := eq_true q33; have p23 : 0 ≤ ((rd x8_1 (ji14)) : Int) := oda; have q23 : ((rd x8_1 (ji14)) : Int) < ((x2_2.length : Int) : Int) := oda; obtain ⟨go23, co23, eo23, gb23, gl23, cl23, HG23⟩ := Kd.N_form HO_2.out (by omega); (first | cases eo23 | (injection eo23 with ea_ en_ ec_; (first | subst ea_ | (injection ea_ with ea_; subst ea_)); subst ec_; clear en_)); have GB23 := ak gb23; have GG23 := ak HG23; clear gb23 gl23 HG23; have HMgo23 := ak (show (P2_ go23 ∨ w.heap.size ≤ go23) from (HO_2.out.1 _ rfl).1); (first | simp only [add_plain] at hx194_0 | skip); (first | simp only [add_plain] at hx209_0 | skip); (first | simp only [add_plain] at hx212_0 | skip); obtain ⟨ce23, hcl23, hM23, hcc23, hfr23⟩ := Kd.N_elem HO_2.out [] ((rd x8_1 (ji14)) : Int) p23 q23; obtain ⟨ua23_0, uc23_0, rfl, ul23_0, ge23_0⟩ := Kd.FK_slice_open hM23; have hx23_0 := hcc23 0 _ rfl; have hf23_0 := hfr23 0; (try simp only [show ((Kd.slice 51 k51)).sz = 1 from rfl, Nat.mul_one, Nat.add_zero] at hx23_0); (try simp only [show ((Kd.slice 51 k51)).sz = 1 from rfl, Nat.mul_one, Nat.add_zero] at hf23_0); clear hcl23 hcc23 hfr23 hM23; replace p23 := eq_true p23; replace q23 := eq_true q23; have HX34 := ak (show Kd.N (Kd.slice 51 k51) 26 w32 w0.heap.size (fun k_ => (P2_ k_ ∨ w.heap.size ≤ k_) ∧ some k_ ≠ (v185 : Value).ownBlock ∧ some k_ ≠ (u8 : Value).ownBlock ∧ some k_ ≠ (u9 : Value).ownBlock ∧ some k_ ≠ (u10 : Value).ownBlock ∧ k_ ≠ gb183 ∧ k_ ≠ gb211) (.slice (some ⟨go23, 0, none⟩) x2_2.length co28) x2_2 from (nx HO_2.out)); obtain ⟨ce34, hcl34, hM34, hcc34, hfr34⟩ := Kd.N_elem HX34.out [] ((rd x8_1 (ji14)) : Int) (oda) (by have h_ : ((rd x8_1 (ji14)) : Int) < ((x2_2.length : Int) : Int) := oda; first | exact h_ | (have e_ := (Kd.N_reads' HO_2.out).1; omega) | simpa using h_); obtain ⟨ua34_0, uc34_0, rfl, ul34_0, ge34_0⟩ := Kd.FK_slice_open hM34; have HP34 := Kd.N_seg HX34.out ((rd x8_1 (ji14)) : Int) (oda) (by have h_ : ((rd x8_1 (ji14)) : Int) < ((x2_2.length : Int) : Int) := oda; first | exact h_ | (have e_ := (Kd.N_reads' HO_2.out).1; omega) | simpa using h_) (seg := [.slice A33 y213.length c33]) (j := 0) hcl34 hcc34 (show 1 ≤ 1 from by decide) (x' := y213) (Kd.FK_slice_mk (Kd.V_reads' (Kd.V_mono (ok' := (fun k_ => ((fun k_ => (P2_ k_ ∨ w.heap.size ≤ k_) ∧ some k_ ≠ (v185 : Value).ownBlock ∧ some k_ ≠ (u8 : Value).ownBlock ∧ some k_ ≠ (u9 : Value).ownBlock ∧ some k_ ≠ (u10 : Value).ownBlock ∧ k_ ≠ gb183 ∧ k_ ≠ gb211)) k_ ∧ k_ ≠ go23)) (HO217.out) (fun k_ hk => ⟨⟨hk.1.1, ⟨hk.1.2.1, ⟨hk.1.2.2.1, ⟨hk.1.2.2.2.1, ⟨hk.1.2.2.2.2.1, ⟨hk.1.2.2.2.2.2.1, hk.1.2.2.2.2.2.2⟩⟩⟩⟩⟩⟩, fun e_ => (hk.2) (by rw [e_]; rfl)⟩))).2.1 (Kd.V_F (Kd.V_mono (ok' := (fun k_ => ((fun k_ => (P2_ k_ ∨ w.heap.size ≤ k_) ∧ some k_ ≠ (v185 : Value).ownBlock ∧ some k_ ≠ (u8 : Value).ownBlock ∧ some k_ ≠ (u9 : Value).ownBlock ∧ some k_ ≠ (u10 : Value).ownBlock ∧ k_ ≠ gb183 ∧ k_ ≠ gb211)) k_ ∧ k_ ≠ go23)) (HO217.out) (fun k_ hk => ⟨⟨hk.1.1, ⟨hk.1.2.1, ⟨hk.1.2.2.1, ⟨hk.1.2.2.2.1, ⟨hk.1.2.2.2.2.1, ⟨hk.1.2.2.2.2.2.1, hk.1.2.2.2.2.2.2⟩⟩⟩⟩⟩⟩, fun e_ => (hk.2) (by rw [e_]; rfl)⟩)))) (fun _ hk => hk); have hx34_0 := hcc34 0 _ rfl; (try simp only [show ((Kd.slice 51 k51)).sz = 1 from rfl, Nat.mul_one, Nat.add_zero] at hx34_0); have hf34_0 := hfr34 0; (try simp only [show ((Kd.slice 51 k51)).sz = 1 from rfl, Nat.mul_one, Nat.add_zero] at hf34_0); clear hcl34 hcc34 hfr34 hM34; (try simp only [show ((Kd.slice 51 k51)).sz = 1 from rfl, Nat.mul_one, Nat.add_zero] at HP34); (try simp only [show ((Kd.slice 51 k51)).sz = 1 from rfl, Nat.mul_one, Nat.add_zero] at HP34)) | ((with_reducible refine gate_store (t := 26) (p := 46) rfl ?_); refine store_event (t := 26) (p := 46) (v := ?vo_w35) (w1 := (w32.setCell ⟨go23, ((rd x8_1 (ji14)) : Int).toNat, none⟩ (.slice A33 y213.length c33))) ?hg ?ho ?hn ?hr ?_; (case ho => rfl); (case hg => rfl); (case hn => rfl); (case hr => first | (go_simp; done) | (go_simp; rfl)); intro w35 hw; have hg : w32.grownBy w35 (some go23) := (by rw [hw]; exact HP34.2); have hp_ : Kd.N (Kd.slice 51 k51) 26 w35 w0.heap.size (fun k_ => (P2_ k_ ∨ w.heap.size ≤ k_) ∧ some k_ ≠ (v185 : Value).ownBlock ∧ some k_ ≠ (u8 : Value).ownBlock ∧ some k_ ≠ (u9 : Value).ownBlock ∧ some k_ ≠ (u10 : Value).ownBlock ∧ k_ ≠ gb183 ∧ k_ ≠ gb211) (.slice (some ⟨go23, 0, none⟩) x2_2.length co28) y218 := (by rw [hw, Ny218.out]; exact HP34.1); clear HP34; have n0_ := ak (hp_); have n1_ := ak (Kd.R_over' (v := (.slice (some ⟨go23, 0, none⟩) x2_2.length co28)) (rx HO_7.out) (Kd.N_typed HO_2.out) (by decide) hg); have n2_ := ak (Kd.R_over' (v := (.slice (some ⟨go23, 0, none⟩) x2_2.length co28)) (rx HO_8.out) (Kd.N_typed HO_2.out) (by decide) hg); have n3_ := ak (Kd.R_over' (v := (.slice (some ⟨go23, 0, none⟩) x2_2.length co28)) (rx HO_9.out) (Kd.N_typed HO_2.out) (by decide) hg); have n4_ := ak (Kd.R_over' (v := (.slice (some ⟨go23, 0, none⟩) x2_2.length co28)) (rx HO_10.out) (Kd.N_typed HO_2.out) (by decide) hg); have n5_ := ak (blk_grown (bx BK183.out) hg (Kd.N_ne HO_2.out BK183.out (by decide))); have n6_ := ak (Kd.V_afterv (v := (.slice (some ⟨go23, 0, none⟩) x2_2.length co28)) (v1 := (.slice (some ⟨go23, 0, none⟩) x2_2.length co28)) (ok := (fun k_ => (P2_ k_ ∨ w.heap.size ≤ k_) ∧ some k_ ≠ (v185 : Value).ownBlock ∧ some k_ ≠ (u8 : Value).ownBlock ∧ some k_ ≠ (u9 : Value).ownBlock ∧ some k_ ≠ (u10 : Value).ownBlock ∧ k_ ≠ gb183 ∧ k_ ≠ gb211)) (by exact vx (Kd.V_mono HL194_0.out (fun _ hk => ⟨⟨hk.1, ⟨hk.2.2.1, ⟨hk.2.2.2.1, ⟨hk.2.2.2.2.1, ⟨hk.2.2.2.2.2.1, ⟨hk.2.2.2.2.2.2.1, hk.2.2.2.2.2.2.2⟩⟩⟩⟩⟩⟩, hk.2.1⟩))) hg (.inl rfl)); have n7_ := ak (Kd.V_afterv (v := (.slice (some ⟨go23, 0, none⟩) x2_2.length co28)) (v1 := (.slice (some ⟨go23, 0, none⟩) x2_2.length co28)) (ok := (fun k_ => (P2_ k_ ∨ w.heap.size ≤ k_) ∧ some k_ ≠ (v185 : Value).ownBlock ∧ some k_ ≠ (u8 : Value).ownBlock ∧ some k_ ≠ (u9 : Value).ownBlock ∧ some k_ ≠ (u10 : Value).ownBlock ∧ k_ ≠ gb183 ∧ k_ ≠ gb211)) (by exact vx (Kd.V_mono HL209_0.out (fun _ hk => ⟨⟨hk.1, ⟨hk.2.2.1, ⟨hk.2.2.2.1, ⟨hk.2.2.2.2.1, ⟨hk.2.2.2.2.2.1, ⟨hk.2.2.2.2.2.2.1, hk.2.2.2.2.2.2.2⟩⟩⟩⟩⟩⟩, hk.2.1⟩))) hg (.inl rfl)); have n8_ := ak (blk_grown (bx BK211.out) hg (Kd.N_ne HO_2.out BK211.out (by decide))); have n9_ := ak (Kd.V_afterv (v := (.slice (some ⟨go23, 0, none⟩) x2_2.length co28)) (v1 := (.slice (some ⟨go23, 0, none⟩) x2_2.length co28)) (ok := (fun k_ => (P2_ k_ ∨ w.heap.size ≤ k_) ∧ some k_ ≠ (v185 : Value).ownBlock ∧ some k_ ≠ (u8 : Value).ownBlock ∧ some k_ ≠ (u9 : Value).ownBlock ∧ some k_ ≠ (u10 : Value).ownBlock ∧ k_ ≠ gb183 ∧ k_ ≠ gb211)) (vx HL212_0.out) hg (.inl rfl)); have n10_ := ak (Kd.V_afterv (v := (.slice (some ⟨go23, 0, none⟩) x2_2.length co28)) (v1 := (.slice (some ⟨go23, 0, none⟩) x2_2.length co28)) (ok := (fun k_ => (P2_ k_ ∨ w.heap.size ≤ k_) ∧ some k_ ≠ (v185 : Value).ownBlock ∧ some k_ ≠ (u8 : Value).ownBlock ∧ some k_ ≠ (u9 : Value).ownBlock ∧ some k_ ≠ (u10 : Value).ownBlock ∧ k_ ≠ gb183 ∧ k_ ≠ gb211)) (vx HO217.out) hg (.inl rfl)); have n11_ := ak ((by rw [hw]; exact below_set (HB.out) GB23.out : Below w0.heap.size w0 w35)); have n12_ := ak (Kept.of_grown (S := (fun k_ => P2_ k_)) hg lk (fun k_ e_ => (HO_2.out.1 k_ e_).1)); clear HO_2; clear HO_7; clear HO_8; clear HO_9; clear HO_10; clear BK183; clear HL194_0; clear HL209_0; clear BK211; clear HL212_0; clear HO217; clear HB; clear HK; have HO_2 := n0_; have HO_7 := n1_; have HO_8 := n2_; have HO_9 := n3_; have HO_10 := n4_; have BK183 := n5_; have HL194_0 := n6_; have HL209_0 := n7_; have BK211 := n8_; have HL212_0 := n9_; have HO217 := n10_; have HB := n11_; have HK := n12_; clear n0_ n1_ n2_ n3_ n4_ n5_ n6_ n7_ n8_ n9_ n10_ n11_ n12_; clear hg hw hp_; have hcz36_0 : w35.cell? ⟨gb211, 0, none⟩ = some (.int .i64 ((rd_T51 (rd_L5 x2_2 (rd x8_1 (ji14))) 0).f0)) := (blk_cell BK211.out 0).trans rfl; have hcz36_1 : w35.cell? ⟨gb211, 1, none⟩ = some (.bool ((rd_T51 (rd_L5 x2_2 (rd x8_1 (ji14))) 0).f1)) := (blk_cell BK211.out 1).trans rfl; have hfz36_0 := blk_frozen BK211.out 0; have hfz36_1 := blk_frozen BK211.out 1; obtain ⟨Ao37, co37, eo37⟩ := Kd.R_slice HO_7.out; subst eo37; have p219 : 0 ≤ (((rd_T51 (rd_L5 x2_2 (rd x8_1 (ji14))) 0).f0) : Int) := oda; have q219 : ((rd_T51 (rd_L5 x2_2 (rd x8_1 (ji14))) 0).f0) < (x7_2.length : Int) := oda; obtain ⟨ad219, e219, hx219_0⟩ := Kd.at_bool (Kd.R_reads' HO_7.out).2.2 ((rd_T51 (rd_L5 x2_2 (rd x8_1 (ji14))) 0).f0) p219 q219; (try rw [← Nbq26.out] at hx219_0); cases e219; replace p219 := eq_true p219; replace q219 := eq_true q219))
       go_roundg k2
       case measure => have := HK1.out; have := HK2.out; omega
       case rel => exact ⟨(y218), (x7_2), (x8_2), (x9_2), H', ⟨by have := HK1.out; have := HK2.out; omega⟩, ⟨by exact nx (Kd.N_mono HO_2.out (fun _ hk => ⟨hk.1, ⟨hk.2.1, ⟨hk.2.2.1, ⟨hk.2.2.2.1, ⟨hk.2.2.2.2.1, hk.2.2.2.2.2.1⟩⟩⟩⟩⟩))⟩, ⟨rx HO_7.out⟩, ⟨rx HO_8.out⟩, ⟨by exact rx (Kd.R_mono HO_9.out (fun _ hk => ⟨hk.1, hk.2.1⟩))⟩, ⟨by exact rx (Kd.R_mono HO_10.out (fun _ hk => ⟨hk.1, hk.2.1⟩))⟩, ⟨bx BK183.out⟩, ⟨lk⟩, ⟨lb⟩⟩
      ·
       replace c27 := Bool.eq_false_iff.mpr c27
       subst c27
       have H1 : ((some (x7_2.set (((rd_T51 (rd_L5 x2_2 (rd x8_1 (ji14))) 0).f0) : Int).toNat true : List Bool)).bind fun y220 => (if ((rd_T51 (rd_L5 x2_2 (rd x8_1 (ji14))) 0).f0) < (l0_1.length : Int) then (if (rd_T51 (rd_L5 x2_2 (rd x8_1 (ji14))) 0).f1 = true then ((some (([(rd_T45 l0_1 ((rd_T51 (rd_L5 x2_2 (rd x8_1 (ji14))) 0).f0)).f0] : List Int) : List Int)).bind fun y223 => (if x8_2.length + y223.length < 17592186044416 then ((some (([(⟨(rd_T51 (rd_L5 x2_2 (rd x8_1 (ji14))) 0).f0, (rd_T51 (rd_L5 x2_2 (rd x8_1 (ji14))) 0).f1⟩ : S51)] : List (S51)) : List (S51))).bind fun y229 => (if x9_2.length + y229.length < 8796093022208 then (euler_circuit.l0 k2 y218 y220 (x8_2 ++ y223) (x9_2 ++ y229) x10_1 a0_0 l0_1) else (none))) else (none))) else ((some (([(rd_T45 l0_1 ((rd_T51 (rd_L5 x2_2 (rd x8_1 (ji14))) 0).f0)).f1] : List Int) : List Int)).bind fun y235 => (if x8_2.length + y235.length < 17592186044416 then ((some (([(⟨(rd_T51 (rd_L5 x2_2 (rd x8_1 (ji14))) 0).f0, (rd_T51 (rd_L5 x2_2 (rd x8_1 (ji14))) 0).f1⟩ : S51)] : List (S51)) : List (S51))).bind fun y241 => (if x9_2.length + y241.length < 8796093022208 then (euler_circuit.l0 k2 y218 y220 (x8_2 ++ y235) (x9_2 ++ y241) x10_1 a0_0 l0_1) else (none))) else (none)))) else (none))) = some (r1, r2) := by rw [if_neg (show ¬ (false = true) by decide)] at H; exact H
       clear H
       have H := H1
       clear H1
       obtain ⟨y220, hy220⟩ : ∃ y_ : List Bool, y_ = (x7_2.set (((rd_T51 (rd_L5 x2_2 (rd x8_1 (ji14))) 0).f0) : Int).toNat true) := ⟨_, rfl⟩
       replace H : (if ((rd_T51 (rd_L5 x2_2 (rd x8_1 (ji14))) 0).f0) < (l0_1.length : Int) then (if (rd_T51 (rd_L5 x2_2 (rd x8_1 (ji14))) 0).f1 = true then ((some (([(rd_T45 l0_1 ((rd_T51 (rd_L5 x2_2 (rd x8_1 (ji14))) 0).f0)).f0] : List Int) : List Int)).bind fun y223 => (if x8_2.length + y223.length < 17592186044416 then ((some (([(⟨(rd_T51 (rd_L5 x2_2 (rd x8_1 (ji14))) 0).f0, (rd_T51 (rd_L5 x2_2 (rd x8_1 (ji14))) 0).f1⟩ : S51)] : List (S51)) : List (S51))).bind fun y229 => (if x9_2.length + y229.length < 8796093022208 then (euler_circuit.l0 k2 y218 y220 (x8_2 ++ y223) (x9_2 ++ y229) x10_1 a0_0 l0_1) else (none))) else (none))) else ((some (([(rd_T45 l0_1 ((rd_T51 (rd_L5 x2_2 (rd x8_1 (ji14))) 0).f0)).f1] : List Int) : List Int)).bind fun y235 => (if x8_2.length + y235.length < 17592186044416 then ((some (([(⟨(rd_T51 (rd_L5 x2_2 (rd x8_1 (ji14))) 0).f0, (rd_T51 (rd_L5 x2_2 (rd x8_1 (ji14))) 0).f1⟩ : S51)] : List (S51)) : List (S51))).bind fun y241 => (if x9_2.length + y241.length < 8796093022208 then (euler_circuit.l0 k2 y218 y220 (x8_2 ++ y235) (x9_2 ++ y241) x10_1 a0_0 l0_1) else (none))) else (none)))) else (none)) = some (r1, r2) := by first | (rw [hy220]; exact H) | exact H
       have Ny220 := ak hy220
       clear hy220
       by_cases c39 : ((rd_T51 (rd_L5 x2_2 (rd x8_1 (ji14))) 0).f0) < (l0_1.length : Int)
       rotate_left
       ·
        rw [if_neg c39] at H
        exact absurd H (by simp)
       rw [if_pos c39] at H
       have c39b0 : decide (((rd_T51 (rd_L5 x2_2 (rd x8_1 (ji14))) 0).f0) < (l0_1.length : Int)) = true := decide_eq_true c39
       clear c39
       obtain ⟨bq40, hbq40⟩ : ∃ b_ : Bool, b_ = ((rd_T51 (rd_L5 x2_2 (rd x8_1 (ji14))) 0).f1) := ⟨_, rfl⟩
       replace H : (if bq40 = true then ((some (([(rd_T45 l0_1 ((rd_T51 (rd_L5 x2_2 (rd x8_1 (ji14))) 0).f0)).f0] : List Int) : List Int)).bind fun y223 => (if x8_2.length + y223.length < 17592186044416 then ((some (([(⟨(rd_T51 (rd_L5 x2_2 (rd x8_1 (ji14))) 0).f0, bq40⟩ : S51)] : List (S51)) : List (S51))).bind fun y229 => (if x9_2.length + y229.length < 8796093022208 then (euler_circuit.l0 k2 y218 y220 (x8_2 ++ y223) (x9_2 ++ y229) x10_1 a0_0 l0_1) else (none))) else (none))) else ((some (([(rd_T45 l0_1 ((rd_T51 (rd_L5 x2_2 (rd x8_1 (ji14))) 0).f0)).f1] : List Int) : List Int)).bind fun y235 => (if x8_2.length + y235.length < 17592186044416 then ((some (([(⟨(rd_T51 (rd_L5 x2_2 (rd x8_1 (ji14))) 0).f0, bq40⟩ : S51)] : List (S51)) : List (S51))).bind fun y241 => (if x9_2.length + y241.length < 8796093022208 then (euler_circuit.l0 k2 y218 y220 (x8_2 ++ y235) (x9_2 ++ y241) x10_1 a0_0 l0_1) else (none))) else (none)))) = some (r1, r2) := by rw [← hbq40] at H; exact H
       have Nbq40 := ak hbq40
       clear hbq40
       by_cases c41 : bq40 = true
       ·
        subst c41
        have H1 : ((some (([(rd_T45 l0_1 ((rd_T51 (rd_L5 x2_2 (rd x8_1 (ji14))) 0).f0)).f0] : List Int) : List Int)).bind fun y223 => (if x8_2.length + y223.length < 17592186044416 then ((some (([(⟨(rd_T51 (rd_L5 x2_2 (rd x8_1 (ji14))) 0).f0, true⟩ : S51)] : List (S51)) : List (S51))).bind fun y229 => (if x9_2.length + y229.length < 8796093022208 then (euler_circuit.l0 k2 y218 y220 (x8_2 ++ y223) (x9_2 ++ y229) x10_1 a0_0 l0_1) else (none))) else (none))) = some (r1, r2) := by rw [if_pos rfl] at H; exact H
        clear H
        have H := H1
        clear H1
        obtain ⟨y223, hy223⟩ : ∃ y_ : List Int, y_ = (([(rd_T45 l0_1 ((rd_T51 (rd_L5 x2_2 (rd x8_1 (ji14))) 0).f0)).f0] : List Int)) := ⟨_, rfl⟩
        replace H : (if x8_2.length + y223.length < 17592186044416 then ((some (([(⟨(rd_T51 (rd_L5 x2_2 (rd x8_1 (ji14))) 0).f0, true⟩ : S51)] : List (S51)) : List (S51))).bind fun y229 => (if x9_2.length + y229.length < 8796093022208 then (euler_circuit.l0 k2 y218 y220 (x8_2 ++ y223) (x9_2 ++ y229) x10_1 a0_0 l0_1) else (none))) else (none)) = some (r1, r2) := by first | (rw [hy223]; exact H) | exact H
        have Ny223 := ak hy223
        clear hy223
        by_cases c42 : x8_2.length + y223.length < 17592186044416
        rotate_left
        ·
         rw [if_neg c42] at H
         exact absurd H (by simp)
        rw [if_pos c42] at H
        have LMc42 := ak c42
        clear c42
        obtain ⟨y226, hy226⟩ : ∃ y_ : List Int, y_ = (x8_2 ++ y223) := ⟨_, rfl⟩
        replace H : ((some (([(⟨(rd_T51 (rd_L5 x2_2 (rd x8_1 (ji14))) 0).f0, true⟩ : S51)] : List (S51)) : List (S51))).bind fun y229 => (if x9_2.length + y229.length < 8796093022208 then (euler_circuit.l0 k2 y218 y220 y226 (x9_2 ++ y229) x10_1 a0_0 l0_1) else (none))) = some (r1, r2) := by first | (rw [hy226]; exact H) | exact H
        have Ny226 := ak hy226
        clear hy226
        obtain ⟨y229, hy229⟩ : ∃ y_ : List (S51), y_ = (([(⟨(rd_T51 (rd_L5 x2_2 (rd x8_1 (ji14))) 0).f0, true⟩ : S51)] : List (S51))) := ⟨_, rfl⟩
        replace H : (if x9_2.length + y229.length < 8796093022208 then (euler_circuit.l0 k2 y218 y220 y226 (x9_2 ++ y229) x10_1 a0_0 l0_1) else (none)) = some (r1, r2) := by first | (rw [hy229]; exact H) | exact H
        have Ny229 := ak hy229
        clear hy229
        by_cases c43 : x9_2.length + y229.length < 8796093022208
        rotate_left
        ·
         rw [if_neg c43] at H
         exact absurd H (by simp)
        rw [if_pos c43] at H
        have LMc43 := ak c43
        clear c43
        obtain ⟨y232, hy232⟩ : ∃ y_ : List (S51), y_ = (x9_2 ++ y229) := ⟨_, rfl⟩
        replace H : (euler_circuit.l0 k2 y218 y220 y226 y232 x10_1 a0_0 l0_1) = some (r1, r2) := by first | (rw [hy232]; exact H) | exact H
        have Ny232 := ak hy232
        clear hy232
        have H' := ak H
        clear H
        obtain ⟨Ao44, co44, eo44⟩ := Kd.N_slice HO_2.out
        subst eo44
        have p194 : 0 ≤ ((rd x8_1 (ji14)) : Int) := oda
        have q194 : (rd x8_1 (ji14)) < (x2_2.length : Int) := oda
        obtain ⟨ad194, A194_0, c194_0, e194, hx194_0, hl194_0, hi194_0⟩ := at_L5 (Kd.N_reads' HO_2.out).2.2 (rd x8_1 (ji14)) p194 q194
        cases e194
        obtain ⟨ce194, hce194, hMe194, hcc194⟩ := Kd.N_get HO_2.out [] (rd x8_1 (ji14)) p194 (by first | exact q194 | exact oda | (have e_ := (Kd.N_reads' HO_2.out).1; omega))
        obtain ⟨ua194_0, uc194_0, rfl, ul194_0, ge194_0⟩ := Kd.FK_slice_open hMe194
        have hv194_0 := hcc194 0 _ rfl
        rw [Nat.add_zero, show ((Kd.slice 51 k51)).sz = 1 from rfl, Nat.mul_one] at hv194_0
        replace hv194_0 := Option.some.inj (hv194_0.symm.trans hx194_0)
        injection hv194_0 with hva_ hvn_ hvc_
        rw [hva_] at ge194_0
        rw [hvc_] at ul194_0
        have HL194_0 := ak (show Kd.V k51 51 _ w0.heap.size _ _ (rd_L5 x2_2 (rd x8_1 (ji14))) from Kd.V_mk ul194_0 ge194_0)
        clear hva_ hvn_ hvc_ ge194_0 ul194_0
        clear hcc194 hce194
        have HR194_0 := ak hi194_0
        have HC194_0 := ak hl194_0
        clear hi194_0 hl194_0
        replace p194 := eq_true p194
        replace q194 := eq_true q194
        have p209 : 0 ≤ ((rd x8_1 (ji14)) : Int) := oda
        have q209 : (rd x8_1 (ji14)) < (x2_2.length : Int) := oda
        obtain ⟨ad209, A209_0, c209_0, e209, hx209_0, hl209_0, hi209_0⟩ := at_L5 (Kd.N_reads' HO_2.out).2.2 (rd x8_1 (ji14)) p209 q209
        obtain rfl : ad194 = ad209 := (by injection e209)
        obtain ⟨ce209, hce209, hMe209, hcc209⟩ := Kd.N_get HO_2.out [] (rd x8_1 (ji14)) p209 (by first | exact q209 | exact oda | (have e_ := (Kd.N_reads' HO_2.out).1; omega))
        obtain ⟨ua209_0, uc209_0, rfl, ul209_0, ge209_0⟩ := Kd.FK_slice_open hMe209
        have hv209_0 := hcc209 0 _ rfl
        rw [Nat.add_zero, show ((Kd.slice 51 k51)).sz = 1 from rfl, Nat.mul_one] at hv209_0
        replace hv209_0 := Option.some.inj (hv209_0.symm.trans hx209_0)
        injection hv209_0 with hva_ hvn_ hvc_
        rw [hva_] at ge209_0
        rw [hvc_] at ul209_0
        have HL209_0 := ak (show Kd.V k51 51 _ w0.heap.size _ _ (rd_L5 x2_2 (rd x8_1 (ji14))) from Kd.V_mk ul209_0 ge209_0)
        clear hva_ hvn_ hvc_ ge209_0 ul209_0
        clear hcc209 hce209
        have HR209_0 := ak hi209_0
        have HC209_0 := ak hl209_0
        clear hi209_0 hl209_0
        replace p209 := eq_true p209
        replace q209 := eq_true q209
        have ea_ := Option.some.inj (hx194_0.symm.trans hx209_0)
        injection ea_ with ea_ en_ ec_
        subst ea_
        subst ec_
        clear en_
        have p210 : 0 ≤ (0 : Int) := (by omega)
        have q210 : 0 < ((rd_L5 x2_2 (rd x8_1 (ji14))).length : Int) := oda
        obtain ⟨ad210, e210, hx210_0, hx210_1⟩ := at_T51 (by repeat (first | (with_reducible exact HR209_0.out) | (with_reducible refine Kd.C_alloc ?_ _) | (with_reducible refine Kd.C_drewN ?_ _) | (with_reducible refine Kd.C_drew ?_) | exact HR209_0.out)) 0 p210 q210
        (try rw [← Nbq26.out] at hx210_1)
        (try rw [← Nbq40.out] at hx210_1)
        cases e210
        have qi210 : (0 < (rd_L5 x2_2 (rd x8_1 (ji14))).length) = True := eq_true (by omega)
        (try rw [show ((0 : Int)).toNat = 0 from rfl] at hx210_0)
        (try rw [show 0 * 2 = 0 from rfl] at hx210_0)
        (try rw [Addr.add_zero'] at hx210_0)
        (try rw [show ((0 : Int)).toNat = 0 from rfl] at hx210_1)
        (try rw [show 0 * 2 = 0 from rfl] at hx210_1)
        (try rw [Addr.add_zero'] at hx210_1)
        replace p210 := eq_true p210
        replace q210 := eq_true q210
        try go_wp2_with (first | go_step3 | (with_reducible refine Eq.mpr Exit.noGoto_normal ?_) | (with_reducible refine Eq.mpr Exit.noGoto_ret ?_) | (with_reducible refine Eq.mpr (Exit.noGoto_exit _) ?_) | ((with_reducible refine gate_dst (N := 12) rfl ?_); refine box_event ?hg (N := 12) ?hd (cs := #[.int .i64 0, .bool false]) (t := 51) ?hr ?_; (case hd => rfl); (case hg => rfl); (case hr => first | (go_simp; done) | (go_simp; rfl)); intro gb211 hg w45 hbox hb; have n0_ := ak (Kd.N_below (Kd.N_elderB (nx HO_2.out) gb211 (Nat.le_of_eq hg.symm)) hb); have n1_ := ak (Kd.R_below (rx HO_7.out) hb); have n2_ := ak (Kd.R_below (rx HO_8.out) hb); have n3_ := ak (Kd.R_below (Kd.R_elderB (rx HO_9.out) gb211 (Nat.le_of_eq hg.symm)) hb); have n4_ := ak (Kd.R_below (Kd.R_elderB (rx HO_10.out) gb211 (Nat.le_of_eq hg.symm)) hb); have n5_ := ak (Kd.V_below (Kd.V_elderB (vx HL194_0.out) gb211 (Nat.le_of_eq hg.symm)) hb); have n6_ := ak (Kd.V_below (Kd.V_elderB (vx HL209_0.out) gb211 (Nat.le_of_eq hg.symm)) hb); have n7_ := ak (blk_below (bx BK183.out) hb); have n8_ := ak (Kd.C_below (by repeat (first | (with_reducible exact HR194_0.out) | (with_reducible refine Kd.C_alloc ?_ _) | (with_reducible refine Kd.C_drewN ?_ _) | (with_reducible refine Kd.C_drew ?_) | exact HR194_0.out)) hb); have n9_ := ak (Kd.C_below (by repeat (first | (with_reducible exact HR209_0.out) | (with_reducible refine Kd.C_alloc ?_ _) | (with_reducible refine Kd.C_drewN ?_ _) | (with_reducible refine Kd.C_drew ?_) | exact HR209_0.out)) hb); have n10_ := ak (Kept.below (S := (fun k_ => P2_ k_)) lk hb); have n11_ := ak (below_step lb hb); have n12_ := ak (hbox); have n13_ := ak ((by rw [hg]; exact (by first | exact HK.out.1 | exact (show Kept w _ (fun k_ => P2_ k_) from lk).1) : w.heap.size ≤ gb211)); have n14_ := ak ((by rw [hg]; exact (below_size lb) : w0.heap.size ≤ gb211)); have n15_ := ak ((by rw [hg]; exact Nat.ne_of_lt (blk_lt (g := gb183) (o := .cells #[.int .i64 a0_0, .slice A0_1 l0_1.length c0_1] 24 (0, 0)) (bx BK183.out)) : gb183 ≠ gb211)); have n16_ := ak ((by rw [hg]; exact Nat.ne_of_gt (blk_lt (g := gb183) (o := .cells #[.int .i64 a0_0, .slice A0_1 l0_1.length c0_1] 24 (0, 0)) (bx BK183.out)) : gb211 ≠ gb183)); clear HO_2; clear HO_7; clear HO_8; clear HO_9; clear HO_10; clear HL194_0; clear HL209_0; clear BK183; clear HR194_0; clear HR209_0; clear HK; clear HB; have HO_2 := n0_; have HO_7 := n1_; have HO_8 := n2_; have HO_9 := n3_; have HO_10 := n4_; have HL194_0 := n5_; have HL209_0 := n6_; have BK183 := n7_; have HR194_0 := n8_; have HR209_0 := n9_; have HK := n10_; have HB := n11_; have BK211 := n12_; have GW211 := n13_; have GE211 := n14_; have NB183_211 := n15_; have NB211_183 := n16_; clear n0_ n1_ n2_ n3_ n4_ n5_ n6_ n7_ n8_ n9_ n10_ n11_ n12_ n13_ n14_ n15_ n16_; clear hb hbox hg; have hnb46 := NB211_183.out; have hnc46 := NB183_211.out; have hcz47_0 : w45.cell? ⟨gb211, 0, none⟩ = some (.int .i64 0) := (blk_cell BK211.out 0).trans rfl; have hcz47_1 : w45.cell? ⟨gb211, 1, none⟩ = some (.bool false) := (blk_cell BK211.out 1).trans rfl; have hfz47_0 := blk_frozen BK211.out 0; have hfz47_1 := blk_frozen BK211.out 1) | ((with_reducible refine gate_store (t := 51) (p := 12) rfl ?_); refine store_event (t := 51) (p := 12) (v := ?vo_w48) (w1 := ((w45.setCell ⟨gb211, 0, none⟩ (.int .i64 ((rd_T51 (rd_L5 x2_2 (rd x8_1 (ji14))) 0).f0))).setCell ⟨gb211, 1, none⟩ (.bool true))) ?hg ?ho ?hn ?hr ?_; (case ho => rfl); (case hg => rfl); (case hn => rfl); (case hr => first | (go_simp; done) | (go_simp; rfl)); intro w48 hw; have n0_ : Aside0 (Kd.N (Kd.slice 51 k51) 26 w48 w0.heap.size (fun k_ => (P2_ k_ ∨ w.heap.size ≤ k_) ∧ some k_ ≠ (v185 : Value).ownBlock ∧ some k_ ≠ (u8 : Value).ownBlock ∧ some k_ ≠ (u9 : Value).ownBlock ∧ some k_ ≠ (u10 : Value).ownBlock ∧ k_ ≠ gb183 ∧ k_ ≠ gb211) (.slice (some ad194) x2_2.length co44) x2_2) := ⟨(by rw [hw]; exact (by exact nx (Kd.N_mono (Kd.N_far (p := ⟨gb211, 1, none⟩) (Kd.N_far (p := ⟨gb211, 0, none⟩) (Kd.N_mono HO_2.out (fun k_ hk => (⟨hk, hk.2⟩ : _ ∧ k_ ≠ gb211))) (fun _ hk => hk.2) (.int .i64 ((rd_T51 (rd_L5 x2_2 (rd x8_1 (ji14))) 0).f0))) (fun _ hk => hk.2) (.bool true)) (fun _ hk => ⟨hk.1.1.1, ⟨hk.1.1.2.1, ⟨hk.1.1.2.2.1, ⟨hk.1.1.2.2.2.1, ⟨hk.1.1.2.2.2.2.1, ⟨hk.1.1.2.2.2.2.2, hk.1.2⟩⟩⟩⟩⟩⟩))))⟩; have n1_ : Aside0 (Kd.R Kd.bool 4 w48 w0.heap.size (fun k_ => (P2_ k_ ∨ w.heap.size ≤ k_)) v185 x7_2) := ⟨(by rw [hw]; exact (by exact rx (Kd.R_mono (Kd.R_far (p := ⟨gb211, 1, none⟩) (Kd.R_far (p := ⟨gb211, 0, none⟩) (Kd.R_types HO_7.out BK211.out (by decide)) (fun _ hk => hk.2) (.int .i64 ((rd_T51 (rd_L5 x2_2 (rd x8_1 (ji14))) 0).f0))) (fun _ hk => hk.2) (.bool true)) (fun _ hk => hk.1))))⟩; have n2_ : Aside0 (Kd.R (Kd.int .i64) 3 w48 w0.heap.size (fun k_ => (P2_ k_ ∨ w.heap.size ≤ k_)) u8 x8_2) := ⟨(by rw [hw]; exact (by exact rx (Kd.R_mono (Kd.R_far (p := ⟨gb211, 1, none⟩) (Kd.R_far (p := ⟨gb211, 0, none⟩) (Kd.R_types HO_8.out BK211.out (by decide)) (fun _ hk => hk.2) (.int .i64 ((rd_T51 (rd_L5 x2_2 (rd x8_1 (ji14))) 0).f0))) (fun _ hk => hk.2) (.bool true)) (fun _ hk => hk.1))))⟩; have n3_ : Aside0 (Kd.R k51 51 w48 w0.heap.size (fun k_ => (P2_ k_ ∨ w.heap.size ≤ k_) ∧ some k_ ≠ (u10 : Value).ownBlock ∧ k_ ≠ gb211) u9 x9_2) := ⟨(by rw [hw]; exact (by exact rx (Kd.R_mono (Kd.R_far (p := ⟨gb211, 1, none⟩) (Kd.R_far (p := ⟨gb211, 0, none⟩) (Kd.R_mono HO_9.out (fun k_ hk => (⟨hk, hk.2⟩ : _ ∧ k_ ≠ gb211))) (fun _ hk => hk.2) (.int .i64 ((rd_T51 (rd_L5 x2_2 (rd x8_1 (ji14))) 0).f0))) (fun _ hk => hk.2) (.bool true)) (fun _ hk => ⟨hk.1.1.1, ⟨hk.1.1.2, hk.1.2⟩⟩))))⟩; have n4_ : Aside0 (Kd.R k51 51 w48 w0.heap.size (fun k_ => (P2_ k_ ∨ w.heap.size ≤ k_) ∧ some k_ ≠ (u9 : Value).ownBlock ∧ k_ ≠ gb211) u10 x10_1) := ⟨(by rw [hw]; exact (by exact rx (Kd.R_mono (Kd.R_far (p := ⟨gb211, 1, none⟩) (Kd.R_far (p := ⟨gb211, 0, none⟩) (Kd.R_mono HO_10.out (fun k_ hk => (⟨hk, hk.2⟩ : _ ∧ k_ ≠ gb211))) (fun _ hk => hk.2) (.int .i64 ((rd_T51 (rd_L5 x2_2 (rd x8_1 (ji14))) 0).f0))) (fun _ hk => hk.2) (.bool true)) (fun _ hk => ⟨hk.1.1.1, ⟨hk.1.1.2, hk.1.2⟩⟩))))⟩; have n5_ : Aside0 (Kd.V k51 51 w48 w0.heap.size (fun k_ => (P2_ k_ ∨ w.heap.size ≤ k_) ∧ some k_ ≠ (.slice (some ad194) x2_2.length co44 : Value).ownBlock ∧ some k_ ≠ (v185 : Value).ownBlock ∧ some k_ ≠ (u8 : Value).ownBlock ∧ some k_ ≠ (u9 : Value).ownBlock ∧ some k_ ≠ (u10 : Value).ownBlock ∧ k_ ≠ gb183 ∧ k_ ≠ gb211) (.slice (some ad210) (rd_L5 x2_2 (rd x8_1 (ji14))).length c194_0) (rd_L5 x2_2 (rd x8_1 (ji14)))) := ⟨(by rw [hw]; exact (by exact vx (Kd.V_mono (Kd.V_far (p := ⟨gb211, 1, none⟩) (Kd.V_far (p := ⟨gb211, 0, none⟩) (Kd.V_mono HL194_0.out (fun k_ hk => (⟨hk, hk.2⟩ : _ ∧ k_ ≠ gb211))) (fun _ hk => hk.2) (.int .i64 ((rd_T51 (rd_L5 x2_2 (rd x8_1 (ji14))) 0).f0))) (fun _ hk => hk.2) (.bool true)) (fun _ hk => ⟨hk.1.1.1.1, ⟨hk.1.1.2, ⟨hk.1.1.1.2.1, ⟨hk.1.1.1.2.2.1, ⟨hk.1.1.1.2.2.2.1, ⟨hk.1.1.1.2.2.2.2.1, ⟨hk.1.1.1.2.2.2.2.2, hk.1.2⟩⟩⟩⟩⟩⟩⟩))))⟩; have n6_ : Aside0 (Kd.V k51 51 w48 w0.heap.size (fun k_ => (P2_ k_ ∨ w.heap.size ≤ k_) ∧ some k_ ≠ (.slice (some ad194) x2_2.length co44 : Value).ownBlock ∧ some k_ ≠ (v185 : Value).ownBlock ∧ some k_ ≠ (u8 : Value).ownBlock ∧ some k_ ≠ (u9 : Value).ownBlock ∧ some k_ ≠ (u10 : Value).ownBlock ∧ k_ ≠ gb183 ∧ k_ ≠ gb211) (.slice (some ad210) (rd_L5 x2_2 (rd x8_1 (ji14))).length c194_0) (rd_L5 x2_2 (rd x8_1 (ji14)))) := ⟨(by rw [hw]; exact (by exact vx (Kd.V_mono (Kd.V_far (p := ⟨gb211, 1, none⟩) (Kd.V_far (p := ⟨gb211, 0, none⟩) (Kd.V_mono HL209_0.out (fun k_ hk => (⟨hk, hk.2⟩ : _ ∧ k_ ≠ gb211))) (fun _ hk => hk.2) (.int .i64 ((rd_T51 (rd_L5 x2_2 (rd x8_1 (ji14))) 0).f0))) (fun _ hk => hk.2) (.bool true)) (fun _ hk => ⟨hk.1.1.1.1, ⟨hk.1.1.2, ⟨hk.1.1.1.2.1, ⟨hk.1.1.1.2.2.1, ⟨hk.1.1.1.2.2.2.1, ⟨hk.1.1.1.2.2.2.2.1, ⟨hk.1.1.1.2.2.2.2.2, hk.1.2⟩⟩⟩⟩⟩⟩⟩))))⟩; have n7_ : Aside0 (w48.heap[gb183]? = some (.cells #[.int .i64 a0_0, .slice A0_1 l0_1.length c0_1] 24 (0, 0))) := ⟨(by rw [hw]; exact (by (with_reducible repeat (first | refine blk_drewN ?_ _ | refine blk_drew ?_ | refine blk_alloc ?_ _)); refine blk_far ?_ NB183_211.out _; (with_reducible repeat (first | refine blk_drewN ?_ _ | refine blk_drew ?_ | refine blk_alloc ?_ _)); refine blk_far ?_ NB183_211.out _; exact bx BK183.out))⟩; have n8_ : Aside0 (w48.heap[gb211]? = some (.cells #[.int .i64 ((rd_T51 (rd_L5 x2_2 (rd x8_1 (ji14))) 0).f0), .bool true] 51 (0, 0))) := ⟨(by rw [hw]; exact (by (with_reducible repeat (first | refine blk_drewN ?_ _ | refine blk_drew ?_ | refine blk_alloc ?_ _)); refine blk_put (cs := #[.int .i64 ((rd_T51 (rd_L5 x2_2 (rd x8_1 (ji14))) 0).f0), .bool false]) ?_ 1 _ rfl; (with_reducible repeat (first | refine blk_drewN ?_ _ | refine blk_drew ?_ | refine blk_alloc ?_ _)); refine blk_put (cs := #[.int .i64 0, .bool false]) ?_ 0 _ rfl; exact bx BK211.out))⟩; have n9_ : Aside0 (Kept w w48 (fun k_ => P2_ k_)) := ⟨(by rw [hw]; exact lk)⟩; have n10_ : Aside0 (Below w0.heap.size w0 w48) := ⟨(by rw [hw]; exact lb)⟩; clear hw; clear HO_2; clear HO_7; clear HO_8; clear HO_9; clear HO_10; clear HL194_0; clear HL209_0; clear BK183; clear BK211; clear HK; clear HB; have HO_2 := n0_; have HO_7 := n1_; have HO_8 := n2_; have HO_9 := n3_; have HO_10 := n4_; have HL194_0 := n5_; have HL209_0 := n6_; have BK183 := n7_; have BK211 := n8_; have HK := n9_; have HB := n10_; clear n0_ n1_ n2_ n3_ n4_ n5_ n6_ n7_ n8_ n9_ n10_; have p212 : 0 ≤ ((rd x8_1 (ji14)) : Int) := oda; have q212 : (rd x8_1 (ji14)) < (x2_2.length : Int) := oda; obtain ⟨ad212, A212_0, c212_0, e212, hx212_0, hl212_0, hi212_0⟩ := at_L5 (Kd.N_reads' HO_2.out).2.2 (rd x8_1 (ji14)) p212 q212; obtain rfl : ad194 = ad212 := (by injection e212); obtain ⟨ce212, hce212, hMe212, hcc212⟩ := Kd.N_get HO_2.out [] (rd x8_1 (ji14)) p212 (by first | exact q212 | exact oda | (have e_ := (Kd.N_reads' HO_2.out).1; omega)); obtain ⟨ua212_0, uc212_0, rfl, ul212_0, ge212_0⟩ := Kd.FK_slice_open hMe212; have hv212_0 := hcc212 0 _ rfl; rw [Nat.add_zero, show ((Kd.slice 51 k51)).sz = 1 from rfl, Nat.mul_one] at hv212_0; replace hv212_0 := Option.some.inj (hv212_0.symm.trans hx212_0); injection hv212_0 with hva_ hvn_ hvc_; rw [hva_] at ge212_0; rw [hvc_] at ul212_0; have HL212_0 := ak (show Kd.V k51 51 _ w0.heap.size _ _ (rd_L5 x2_2 (rd x8_1 (ji14))) from Kd.V_mk ul212_0 ge212_0); clear hva_ hvn_ hvc_ ge212_0 ul212_0; clear hcc212 hce212; have HR212_0 := ak hi212_0; have HC212_0 := ak hl212_0; clear hi212_0 hl212_0; replace p212 := eq_true p212; replace q212 := eq_true q212; have q49 : (1 : Int) ≤ (((rd_L5 x2_2 (rd x8_1 (ji14))).length : Int) : Int) := oda; obtain ⟨i049, hi049, _, hsz49, _⟩ := info_parts info51; have hroom49 : (rd_L5 x2_2 (rd x8_1 (ji14))).length ≤ c212_0 := HC212_0.out; have hC49 : Kd.F k51 _ _ A212_0 (rd_L5 x2_2 (rd x8_1 (ji14))).length (rd_L5 x2_2 (rd x8_1 (ji14))) := (Kd.V_at (base := w0.heap.size) HL212_0.out).2.2; have hcut49 := cut_from (P := Try.prog) 26 51 .i64 Try.underlying26 hi049 2 hsz49 A212_0 (rd_L5 x2_2 (rd x8_1 (ji14))).length c212_0 1 (by omega) q49; have hr49 := Kd.F_cut (m := (1 : Int).toNat) (c := c212_0) hC49 (by omega) hroom49; obtain ⟨A49, hA49⟩ : ∃ A1, A1 = (if c212_0 = (1 : Int).toNat then A212_0 else (A212_0 : Option Addr).map (·.add ((1 : Int).toNat * 2))) := ⟨_, rfl⟩; obtain ⟨c49, hc49⟩ : ∃ c1, c1 = c212_0 - (1 : Int).toNat := ⟨_, rfl⟩; have hy49 : y213.length = (rd_L5 x2_2 (rd x8_1 (ji14))).length - (1 : Int).toNat := (by rw [Ny213.out, List.length_drop] <;> omega); rw [show (rd_L5 x2_2 (rd x8_1 (ji14))).drop (1 : Int).toNat = y213 from Ny213.out.symm] at hr49; replace hr49 : Kd.F k51 _ _ A49 y213.length y213 := (by rw [hA49]; exact hr49); rw [← hy49, ← hA49, ← hc49] at hcut49; have HO217 := ak (show Kd.V k51 51 _ w0.heap.size _ (.slice A49 y213.length c49) y213 from Kd.V_mk (by rw [hy49, hc49]; exact Nat.sub_le_sub_right hroom49 _) hr49); have HC217 := ak (show y213.length ≤ c49 from by rw [hy49, hc49]; exact Nat.sub_le_sub_right hroom49 _); clear hr49 hC49 hroom49 hi049 hsz49 hc49; have KY49 := ak hy49; have KA49 := ak hA49; clear hy49 hA49; replace q49 := eq_true q49; have p23 : 0 ≤ ((rd x8_1 (ji14)) : Int) := oda; have q23 : ((rd x8_1 (ji14)) : Int) < ((x2_2.length : Int) : Int) := oda; obtain ⟨go23, co23, eo23, gb23, gl23, cl23, HG23⟩ := Kd.N_form HO_2.out (by omega); (first | cases eo23 | (injection eo23 with ea_ en_ ec_; (first | subst ea_ | (injection ea_ with ea_; subst ea_)); subst ec_; clear en_)); have GB23 := ak gb23; have GG23 := ak HG23; clear gb23 gl23 HG23; have HMgo23 := ak (show (P2_ go23 ∨ w.heap.size ≤ go23) from (HO_2.out.1 _ rfl).1); (first | simp only [add_plain] at hx194_0 | skip); (first | simp only [add_plain] at hx209_0 | skip); (first | simp only [add_plain] at hx212_0 | skip); obtain ⟨ce23, hcl23, hM23, hcc23, hfr23⟩ := Kd.N_elem HO_2.out [] ((rd x8_1 (ji14)) : Int) p23 q23; obtain ⟨ua23_0, uc23_0, rfl, ul23_0, ge23_0⟩ := Kd.FK_slice_open hM23; have hx23_0 := hcc23 0 _ rfl; have hf23_0 := hfr23 0; (try simp only [show ((Kd.slice 51 k51)).sz = 1 from rfl, Nat.mul_one, Nat.add_zero] at hx23_0); (try simp only [show ((Kd.slice 51 k51)).sz = 1 from rfl, Nat.mul_one, Nat.add_zero] at hf23_0); clear hcl23 hcc23 hfr23 hM23; replace p23 := eq_true p23; replace q23 := eq_true q23; have HX50 := ak (show Kd.N (Kd.slice 51 k51) 26 w48 w0.heap.size (fun k_ => (P2_ k_ ∨ w.heap.size ≤ k_) ∧ some k_ ≠ (v185 : Value).ownBlock ∧ some k_ ≠ (u8 : Value).ownBlock ∧ some k_ ≠ (u9 : Value).ownBlock ∧ some k_ ≠ (u10 : Value).ownBlock ∧ k_ ≠ gb183 ∧ k_ ≠ gb211) (.slice (some ⟨go23, 0, none⟩) x2_2.length co44) x2_2 from (nx HO_2.out)); obtain ⟨ce50, hcl50, hM50, hcc50, hfr50⟩ := Kd.N_elem HX50.out [] ((rd x8_1 (ji14)) : Int) (oda) (by have h_ : ((rd x8_1 (ji14)) : Int) < ((x2_2.length : Int) : Int) := oda; first | exact h_ | (have e_ := (Kd.N_reads' HO_2.out).1; omega) | simpa using h_); obtain ⟨ua50_0, uc50_0, rfl, ul50_0, ge50_0⟩ := Kd.FK_slice_open hM50; have HP50 := Kd.N_seg HX50.out ((rd x8_1 (ji14)) : Int) (oda) (by have h_ : ((rd x8_1 (ji14)) : Int) < ((x2_2.length : Int) : Int) := oda; first | exact h_ | (have e_ := (Kd.N_reads' HO_2.out).1; omega) | simpa using h_) (seg := [.slice A49 y213.length c49]) (j := 0) hcl50 hcc50 (show 1 ≤ 1 from by decide) (x' := y213) (Kd.FK_slice_mk (Kd.V_reads' (Kd.V_mono (ok' := (fun k_ => ((fun k_ => (P2_ k_ ∨ w.heap.size ≤ k_) ∧ some k_ ≠ (v185 : Value).ownBlock ∧ some k_ ≠ (u8 : Value).ownBlock ∧ some k_ ≠ (u9 : Value).ownBlock ∧ some k_ ≠ (u10 : Value).ownBlock ∧ k_ ≠ gb183 ∧ k_ ≠ gb211)) k_ ∧ k_ ≠ go23)) (HO217.out) (fun k_ hk => ⟨⟨hk.1.1, ⟨hk.1.2.1, ⟨hk.1.2.2.1, ⟨hk.1.2.2.2.1, ⟨hk.1.2.2.2.2.1, ⟨hk.1.2.2.2.2.2.1, hk.1.2.2.2.2.2.2⟩⟩⟩⟩⟩⟩, fun e_ => (hk.2) (by rw [e_]; rfl)⟩))).2.1 (Kd.V_F (Kd.V_mono (ok' := (fun k_ => ((fun k_ => (P2_ k_ ∨ w.heap.size ≤ k_) ∧ some k_ ≠ (v185 : Value).ownBlock ∧ some k_ ≠ (u8 : Value).ownBlock ∧ some k_ ≠ (u9 : Value).ownBlock ∧ some k_ ≠ (u10 : Value).ownBlock ∧ k_ ≠ gb183 ∧ k_ ≠ gb211)) k_ ∧ k_ ≠ go23)) (HO217.out) (fun k_ hk => ⟨⟨hk.1.1, ⟨hk.1.2.1, ⟨hk.1.2.2.1, ⟨hk.1.2.2.2.1, ⟨hk.1.2.2.2.2.1, ⟨hk.1.2.2.2.2.2.1, hk.1.2.2.2.2.2.2⟩⟩⟩⟩⟩⟩, fun e_ => (hk.2) (by rw [e_]; rfl)⟩)))) (fun _ hk => hk); have hx50_0 := hcc50 0 _ rfl; (try simp only [show ((Kd.slice 51 k51)).sz = 1 from rfl, Nat.mul_one, Nat.add_zero] at hx50_0); have hf50_0 := hfr50 0; (try simp only [show ((Kd.slice 51 k51)).sz = 1 from rfl, Nat.mul_one, Nat.add_zero] at hf50_0); clear hcl50 hcc50 hfr50 hM50; (try simp only [show ((Kd.slice 51 k51)).sz = 1 from rfl, Nat.mul_one, Nat.add_zero] at HP50); (try simp only [show ((Kd.slice 51 k51)).sz = 1 from rfl, Nat.mul_one, Nat.add_zero] at HP50)) | ((with_reducible refine gate_store (t := 26) (p := 46) rfl ?_); refine store_event (t := 26) (p := 46) (v := ?vo_w51) (w1 := (w48.setCell ⟨go23, ((rd x8_1 (ji14)) : Int).toNat, none⟩ (.slice A49 y213.length c49))) ?hg ?ho ?hn ?hr ?_; (case ho => rfl); (case hg => rfl); (case hn => rfl); (case hr => first | (go_simp; done) | (go_simp; rfl)); intro w51 hw; have hg : w48.grownBy w51 (some go23) := (by rw [hw]; exact HP50.2); have hp_ : Kd.N (Kd.slice 51 k51) 26 w51 w0.heap.size (fun k_ => (P2_ k_ ∨ w.heap.size ≤ k_) ∧ some k_ ≠ (v185 : Value).ownBlock ∧ some k_ ≠ (u8 : Value).ownBlock ∧ some k_ ≠ (u9 : Value).ownBlock ∧ some k_ ≠ (u10 : Value).ownBlock ∧ k_ ≠ gb183 ∧ k_ ≠ gb211) (.slice (some ⟨go23, 0, none⟩) x2_2.length co44) y218 := (by rw [hw, Ny218.out]; exact HP50.1); clear HP50; have n0_ := ak (hp_); have n1_ := ak (Kd.R_over' (v := (.slice (some ⟨go23, 0, none⟩) x2_2.length co44)) (rx HO_7.out) (Kd.N_typed HO_2.out) (by decide) hg); have n2_ := ak (Kd.R_over' (v := (.slice (some ⟨go23, 0, none⟩) x2_2.length co44)) (rx HO_8.out) (Kd.N_typed HO_2.out) (by decide) hg); have n3_ := ak (Kd.R_over' (v := (.slice (some ⟨go23, 0, none⟩) x2_2.length co44)) (rx HO_9.out) (Kd.N_typed HO_2.out) (by decide) hg); have n4_ := ak (Kd.R_over' (v := (.slice (some ⟨go23, 0, none⟩) x2_2.length co44)) (rx HO_10.out) (Kd.N_typed HO_2.out) (by decide) hg); have n5_ := ak (blk_grown (bx BK183.out) hg (Kd.N_ne HO_2.out BK183.out (by decide))); have n6_ := ak (Kd.V_afterv (v := (.slice (some ⟨go23, 0, none⟩) x2_2.length co44)) (v1 := (.slice (some ⟨go23, 0, none⟩) x2_2.length co44)) (ok := (fun k_ => (P2_ k_ ∨ w.heap.size ≤ k_) ∧ some k_ ≠ (v185 : Value).ownBlock ∧ some k_ ≠ (u8 : Value).ownBlock ∧ some k_ ≠ (u9 : Value).ownBlock ∧ some k_ ≠ (u10 : Value).ownBlock ∧ k_ ≠ gb183 ∧ k_ ≠ gb211)) (by exact vx (Kd.V_mono HL194_0.out (fun _ hk => ⟨⟨hk.1, ⟨hk.2.2.1, ⟨hk.2.2.2.1, ⟨hk.2.2.2.2.1, ⟨hk.2.2.2.2.2.1, ⟨hk.2.2.2.2.2.2.1, hk.2.2.2.2.2.2.2⟩⟩⟩⟩⟩⟩, hk.2.1⟩))) hg (.inl rfl)); have n7_ := ak (Kd.V_afterv (v := (.slice (some ⟨go23, 0, none⟩) x2_2.length co44)) (v1 := (.slice (some ⟨go23, 0, none⟩) x2_2.length co44)) (ok := (fun k_ => (P2_ k_ ∨ w.heap.size ≤ k_) ∧ some k_ ≠ (v185 : Value).ownBlock ∧ some k_ ≠ (u8 : Value).ownBlock ∧ some k_ ≠ (u9 : Value).ownBlock ∧ some k_ ≠ (u10 : Value).ownBlock ∧ k_ ≠ gb183 ∧ k_ ≠ gb211)) (by exact vx (Kd.V_mono HL209_0.out (fun _ hk => ⟨⟨hk.1, ⟨hk.2.2.1, ⟨hk.2.2.2.1, ⟨hk.2.2.2.2.1, ⟨hk.2.2.2.2.2.1, ⟨hk.2.2.2.2.2.2.1, hk.2.2.2.2.2.2.2⟩⟩⟩⟩⟩⟩, hk.2.1⟩))) hg (.inl rfl)); have n8_ := ak (blk_grown (bx BK211.out) hg (Kd.N_ne HO_2.out BK211.out (by decide))); have n9_ := ak (Kd.V_afterv (v := (.slice (some ⟨go23, 0, none⟩) x2_2.length co44)) (v1 := (.slice (some ⟨go23, 0, none⟩) x2_2.length co44)) (ok := (fun k_ => (P2_ k_ ∨ w.heap.size ≤ k_) ∧ some k_ ≠ (v185 : Value).ownBlock ∧ some k_ ≠ (u8 : Value).ownBlock ∧ some k_ ≠ (u9 : Value).ownBlock ∧ some k_ ≠ (u10 : Value).ownBlock ∧ k_ ≠ gb183 ∧ k_ ≠ gb211)) (vx HL212_0.out) hg (.inl rfl)); have n10_ := ak (Kd.V_afterv (v := (.slice (some ⟨go23, 0, none⟩) x2_2.length co44)) (v1 := (.slice (some ⟨go23, 0, none⟩) x2_2.length co44)) (ok := (fun k_ => (P2_ k_ ∨ w.heap.size ≤ k_) ∧ some k_ ≠ (v185 : Value).ownBlock ∧ some k_ ≠ (u8 : Value).ownBlock ∧ some k_ ≠ (u9 : Value).ownBlock ∧ some k_ ≠ (u10 : Value).ownBlock ∧ k_ ≠ gb183 ∧ k_ ≠ gb211)) (vx HO217.out) hg (.inl rfl)); have n11_ := ak ((by rw [hw]; exact below_set (HB.out) GB23.out : Below w0.heap.size w0 w51)); have n12_ := ak (Kept.of_grown (S := (fun k_ => P2_ k_)) hg lk (fun k_ e_ => (HO_2.out.1 k_ e_).1)); clear HO_2; clear HO_7; clear HO_8; clear HO_9; clear HO_10; clear BK183; clear HL194_0; clear HL209_0; clear BK211; clear HL212_0; clear HO217; clear HB; clear HK; have HO_2 := n0_; have HO_7 := n1_; have HO_8 := n2_; have HO_9 := n3_; have HO_10 := n4_; have BK183 := n5_; have HL194_0 := n6_; have HL209_0 := n7_; have BK211 := n8_; have HL212_0 := n9_; have HO217 := n10_; have HB := n11_; have HK := n12_; clear n0_ n1_ n2_ n3_ n4_ n5_ n6_ n7_ n8_ n9_ n10_ n11_ n12_; clear hg hw hp_; have hcz52_0 : w51.cell? ⟨gb211, 0, none⟩ = some (.int .i64 ((rd_T51 (rd_L5 x2_2 (rd x8_1 (ji14))) 0).f0)) := (blk_cell BK211.out 0).trans rfl; have hcz52_1 : w51.cell? ⟨gb211, 1, none⟩ = some (.bool true) := (blk_cell BK211.out 1).trans rfl; have hfz52_0 := blk_frozen BK211.out 0; have hfz52_1 := blk_frozen BK211.out 1; obtain ⟨Ao53, co53, eo53⟩ := Kd.R_slice HO_7.out; subst eo53; have p219 : 0 ≤ (((rd_T51 (rd_L5 x2_2 (rd x8_1 (ji14))) 0).f0) : Int) := oda; have q219 : ((rd_T51 (rd_L5 x2_2 (rd x8_1 (ji14))) 0).f0) < (x7_2.length : Int) := oda; obtain ⟨ad219, e219, hx219_0⟩ := Kd.at_bool (Kd.R_reads' HO_7.out).2.2 ((rd_T51 (rd_L5 x2_2 (rd x8_1 (ji14))) 0).f0) p219 q219; (try rw [← Nbq26.out] at hx219_0); (try rw [← Nbq40.out] at hx219_0); cases e219; replace p219 := eq_true p219; replace q219 := eq_true q219; have p38 : 0 ≤ (((rd_T51 (rd_L5 x2_2 (rd x8_1 (ji14))) 0).f0) : Int) := oda; have q38 : (((rd_T51 (rd_L5 x2_2 (rd x8_1 (ji14))) 0).f0) : Int) < ((x7_2.length : Int) : Int) := oda; obtain ⟨go38, co38, eo38, gb38, gl38, cl38, HG38⟩ := Kd.R_form HO_7.out (by omega); (first | cases eo38 | (injection eo38 with ea_ en_ ec_; (first | subst ea_ | (injection ea_ with ea_; subst ea_)); subst ec_; clear en_)); have GB38 := ak gb38; have GG38 := ak HG38; clear gb38 gl38 HG38; have HMgo38 := ak (show (P2_ go38 ∨ w.heap.size ≤ go38) from (HO_7.out.1 _ rfl)); (first | simp only [add_plain] at hx219_0 | skip); obtain ⟨hx38_0, hf38_0⟩ := Kd.R_celln false HO_7.out (((rd_T51 (rd_L5 x2_2 (rd x8_1 (ji14))) 0).f0) : Int) p38 q38; replace p38 := eq_true p38; replace q38 := eq_true q38; obtain ⟨hy54_, hz54_⟩ := Kd.R_celln false HO_7.out (((rd_T51 (rd_L5 x2_2 (rd x8_1 (ji14))) 0).f0) : Int) (oda) (oda); have HP54 := Kd.R_putg HO_7.out (((rd_T51 (rd_L5 x2_2 (rd x8_1 (ji14))) 0).f0) : Int) true) | ((with_reducible refine gate_store (t := 4) (p := 55) rfl ?_); refine store_event (t := 4) (p := 55) (v := ?vo_w55) (w1 := (w51.setCell ⟨go38, (((rd_T51 (rd_L5 x2_2 (rd x8_1 (ji14))) 0).f0) : Int).toNat, none⟩ (.bool true))) ?hg ?ho ?hn ?hr ?_; (case ho => rfl); (case hg => rfl); (case hn => rfl); (case hr => first | (go_simp; done) | (go_simp; rfl)); intro w55 hw; have hg : w51.grownBy w55 (some go38) := (by rw [hw]; exact HP54.2); have hp_ : Kd.R Kd.bool 4 w55 w0.heap.size (fun k_ => (P2_ k_ ∨ w.heap.size ≤ k_)) (.slice (some ⟨go38, 0, none⟩) x7_2.length co53) y220 := (by rw [hw, Ny220.out]; exact HP54.1); clear HP54; have n0_ := ak (Kd.N_afterv (v := (.slice (some ⟨go38, 0, none⟩) x7_2.length co53)) (v1 := (.slice (some ⟨go38, 0, none⟩) x7_2.length co53)) (ok := (fun k_ => (P2_ k_ ∨ w.heap.size ≤ k_) ∧ some k_ ≠ (u8 : Value).ownBlock ∧ some k_ ≠ (u9 : Value).ownBlock ∧ some k_ ≠ (u10 : Value).ownBlock ∧ k_ ≠ gb183 ∧ k_ ≠ gb211)) (by exact nx (Kd.N_mono HO_2.out (fun _ hk => ⟨⟨hk.1, ⟨hk.2.2.1, ⟨hk.2.2.2.1, ⟨hk.2.2.2.2.1, ⟨hk.2.2.2.2.2.1, hk.2.2.2.2.2.2⟩⟩⟩⟩⟩, hk.2.1⟩))) hg (.inl rfl)); have n1_ := ak (hp_); have n2_ := ak (Kd.R_over' (v := (.slice (some ⟨go38, 0, none⟩) x7_2.length co53)) (rx HO_8.out) (Kd.R_typed HO_7.out) (by decide) hg); have n3_ := ak (Kd.R_over' (v := (.slice (some ⟨go38, 0, none⟩) x7_2.length co53)) (rx HO_9.out) (Kd.R_typed HO_7.out) (by decide) hg); have n4_ := ak (Kd.R_over' (v := (.slice (some ⟨go38, 0, none⟩) x7_2.length co53)) (rx HO_10.out) (Kd.R_typed HO_7.out) (by decide) hg); have n5_ := ak (blk_grown (bx BK183.out) hg (Kd.R_ne HO_7.out BK183.out (by decide))); have n6_ := ak (Kd.V_afterv (v := (.slice (some ⟨go38, 0, none⟩) x7_2.length co53)) (v1 := (.slice (some ⟨go38, 0, none⟩) x7_2.length co53)) (ok := (fun k_ => (P2_ k_ ∨ w.heap.size ≤ k_) ∧ some k_ ≠ (.slice (some ⟨go23, 0, none⟩) x2_2.length co44 : Value).ownBlock ∧ some k_ ≠ (u8 : Value).ownBlock ∧ some k_ ≠ (u9 : Value).ownBlock ∧ some k_ ≠ (u10 : Value).ownBlock ∧ k_ ≠ gb183 ∧ k_ ≠ gb211)) (by exact vx (Kd.V_mono HL194_0.out (fun _ hk => ⟨⟨hk.1.1, ⟨hk.2, ⟨hk.1.2.2.1, ⟨hk.1.2.2.2.1, ⟨hk.1.2.2.2.2.1, ⟨hk.1.2.2.2.2.2.1, hk.1.2.2.2.2.2.2⟩⟩⟩⟩⟩⟩, hk.1.2.1⟩))) hg (.inl rfl)); have n7_ := ak (Kd.V_afterv (v := (.slice (some ⟨go38, 0, none⟩) x7_2.length co53)) (v1 := (.slice (some ⟨go38, 0, none⟩) x7_2.length co53)) (ok := (fun k_ => (P2_ k_ ∨ w.heap.size ≤ k_) ∧ some k_ ≠ (.slice (some ⟨go23, 0, none⟩) x2_2.length co44 : Value).ownBlock ∧ some k_ ≠ (u8 : Value).ownBlock ∧ some k_ ≠ (u9 : Value).ownBlock ∧ some k_ ≠ (u10 : Value).ownBlock ∧ k_ ≠ gb183 ∧ k_ ≠ gb211)) (by exact vx (Kd.V_mono HL209_0.out (fun _ hk => ⟨⟨hk.1.1, ⟨hk.2, ⟨hk.1.2.2.1, ⟨hk.1.2.2.2.1, ⟨hk.1.2.2.2.2.1, ⟨hk.1.2.2.2.2.2.1, hk.1.2.2.2.2.2.2⟩⟩⟩⟩⟩⟩, hk.1.2.1⟩))) hg (.inl rfl)); have n8_ := ak (blk_grown (bx BK211.out) hg (Kd.R_ne HO_7.out BK211.out (by decide))); have n9_ := ak (Kd.V_afterv (v := (.slice (some ⟨go38, 0, none⟩) x7_2.length co53)) (v1 := (.slice (some ⟨go38, 0, none⟩) x7_2.length co53)) (ok := (fun k_ => (P2_ k_ ∨ w.heap.size ≤ k_) ∧ some k_ ≠ (.slice (some ⟨go23, 0, none⟩) x2_2.length co44 : Value).ownBlock ∧ some k_ ≠ (u8 : Value).ownBlock ∧ some k_ ≠ (u9 : Value).ownBlock ∧ some k_ ≠ (u10 : Value).ownBlock ∧ k_ ≠ gb183 ∧ k_ ≠ gb211)) (by exact vx (Kd.V_mono HL212_0.out (fun _ hk => ⟨⟨hk.1.1, ⟨hk.2, ⟨hk.1.2.2.1, ⟨hk.1.2.2.2.1, ⟨hk.1.2.2.2.2.1, ⟨hk.1.2.2.2.2.2.1, hk.1.2.2.2.2.2.2⟩⟩⟩⟩⟩⟩, hk.1.2.1⟩))) hg (.inl rfl)); have n10_ := ak (Kd.V_afterv (v := (.slice (some ⟨go38, 0, none⟩) x7_2.length co53)) (v1 := (.slice (some ⟨go38, 0, none⟩) x7_2.length co53)) (ok := (fun k_ => (P2_ k_ ∨ w.heap.size ≤ k_) ∧ some k_ ≠ (.slice (some ⟨go23, 0, none⟩) x2_2.length co44 : Value).ownBlock ∧ some k_ ≠ (u8 : Value).ownBlock ∧ some k_ ≠ (u9 : Value).ownBlock ∧ some k_ ≠ (u10 : Value).ownBlock ∧ k_ ≠ gb183 ∧ k_ ≠ gb211)) (by exact vx (Kd.V_mono HO217.out (fun _ hk => ⟨⟨hk.1.1, ⟨hk.2, ⟨hk.1.2.2.1, ⟨hk.1.2.2.2.1, ⟨hk.1.2.2.2.2.1, ⟨hk.1.2.2.2.2.2.1, hk.1.2.2.2.2.2.2⟩⟩⟩⟩⟩⟩, hk.1.2.1⟩))) hg (.inl rfl)); have n11_ := ak ((by rw [hw]; exact below_set (HB.out) GB38.out : Below w0.heap.size w0 w55)); have n12_ := ak (Kept.of_grown (S := (fun k_ => P2_ k_)) hg lk (fun k_ e_ => (HO_7.out.1 k_ e_))); clear HO_2; clear HO_7; clear HO_8; clear HO_9; clear HO_10; clear BK183; clear HL194_0; clear HL209_0; clear BK211; clear HL212_0; clear HO217; clear HB; clear HK; have HO_2 := n0_; have HO_7 := n1_; have HO_8 := n2_; have HO_9 := n3_; have HO_10 := n4_; have BK183 := n5_; have HL194_0 := n6_; have HL209_0 := n7_; have BK211 := n8_; have HL212_0 := n9_; have HO217 := n10_; have HB := n11_; have HK := n12_; clear n0_ n1_ n2_ n3_ n4_ n5_ n6_ n7_ n8_ n9_ n10_ n11_ n12_; clear hg hw hp_; have hcz56_0 : w55.cell? ⟨gb183, 0, none⟩ = some (.int .i64 a0_0) := (blk_cell BK183.out 0).trans rfl; have hcz56_1 : w55.cell? ⟨gb183, 1, none⟩ = some (.slice A0_1 l0_1.length c0_1) := (blk_cell BK183.out 1).trans rfl; have hfz56_0 := blk_frozen BK183.out 0; have hfz56_1 := blk_frozen BK183.out 1; have hcz57_0 : w55.cell? ⟨gb211, 0, none⟩ = some (.int .i64 ((rd_T51 (rd_L5 x2_2 (rd x8_1 (ji14))) 0).f0)) := (blk_cell BK211.out 0).trans rfl; have hcz57_1 : w55.cell? ⟨gb211, 1, none⟩ = some (.bool true) := (blk_cell BK211.out 1).trans rfl; have hfz57_0 := blk_frozen BK211.out 0; have hfz57_1 := blk_frozen BK211.out 1; have p221 : 0 ≤ (((rd_T51 (rd_L5 x2_2 (rd x8_1 (ji14))) 0).f0) : Int) := oda; have q221 : ((rd_T51 (rd_L5 x2_2 (rd x8_1 (ji14))) 0).f0) < (l0_1.length : Int) := oda; obtain ⟨ad221, e221, hx221_0, hx221_1, hx221_2, hx221_3⟩ := at_T45 (Kd.C_kept_now HR0_1.out HK.out) ((rd_T51 (rd_L5 x2_2 (rd x8_1 (ji14))) 0).f0) p221 q221; cases e221; replace p221 := eq_true p221; replace q221 := eq_true q221; have p222 : 0 ≤ (((rd_T51 (rd_L5 x2_2 (rd x8_1 (ji14))) 0).f0) : Int) := oda; have q222 : ((rd_T51 (rd_L5 x2_2 (rd x8_1 (ji14))) 0).f0) < (l0_1.length : Int) := oda; obtain ⟨ad222, e222, hx222_0, hx222_1, hx222_2, hx222_3⟩ := at_T45 (Kd.C_kept_now HR0_1.out HK.out) ((rd_T51 (rd_L5 x2_2 (rd x8_1 (ji14))) 0).f0) p222 q222; obtain rfl : ad221 = ad222 := (by injection e222); replace p222 := eq_true p222; replace q222 := eq_true q222; obtain ⟨Ao58, co58, eo58⟩ := Kd.R_slice HO_8.out; subst eo58; obtain ⟨Ao59, co59, eo59⟩ := Kd.R_slice HO_9.out; subst eo59))
        have n0_ := ak (Kd.N_drew HO_2.out)
        have n1_ := ak (Kd.R_drew HO_7.out)
        have n2_ := ak (Kd.R_drew HO_8.out)
        have n3_ := ak (Kd.R_drew HO_9.out)
        have n4_ := ak (Kd.R_drew HO_10.out)
        have n5_ := ak (Kd.V_drew HL194_0.out)
        have n6_ := ak (Kd.V_drew HL209_0.out)
        have n7_ := ak (Kd.V_drew HL212_0.out)
        have n8_ := ak (Kd.V_drew HO217.out)
        have n9_ := ak (blk_drew BK183.out)
        have n10_ := ak (blk_drew BK211.out)
        have n11_ := ak (Kept.drew HK.out)
        have n12_ := ak (below_drew1 HB.out)
        clear HO_2
        clear HO_7
        clear HO_8
        clear HO_9
        clear HO_10
        clear HL194_0
        clear HL209_0
        clear HL212_0
        clear HO217
        clear BK183
        clear BK211
        clear HK
        clear HB
        have HO_2 := n0_
        have HO_7 := n1_
        have HO_8 := n2_
        have HO_9 := n3_
        have HO_10 := n4_
        have HL194_0 := n5_
        have HL209_0 := n6_
        have HL212_0 := n7_
        have HO217 := n8_
        have BK183 := n9_
        have BK211 := n10_
        have HK := n11_
        have HB := n12_
        clear n0_ n1_ n2_ n3_ n4_ n5_ n6_ n7_ n8_ n9_ n10_ n11_ n12_
        refine start_ (n := 10) (S := fun w' => w'.cell? ⟨gb211, 0, none⟩ = some (.int .i64 ((rd_T51 (rd_L5 x2_2 (rd x8_1 (ji14))) 0).f0)) ∧ w'.cell? ⟨gb211, 1, none⟩ = some (.bool true)) (ds := []) #[false, false, false, false, false, false, false, false, false, false] (by kernel_rfl) rfl rfl ⟨(blk_cell BK211.out 0).trans rfl, (blk_cell BK211.out 1).trans rfl⟩ (fun hHeld => ?_); refine with_tabW euler_circuit.tab13 euler_circuit.bits13 (fun HT_ HW_ => ?_)
        generalize w55.drew = w60 at HO_2 HO_7 HO_8 HO_9 HO_10 HL194_0 HL209_0 HL212_0 HO217 BK183 BK211 HK HB hHeld ⊢
        refine pure_ (i := 0) (N := some 72) (v := ?_) (a' := ?_) #[true, false, false, false, false, false, false, false, false, false] rfl rfl (any_of HT_.out (by kernel_rfl)) (fun _ _ _ h => h) (Or.inl ⟨by rfl, ?_⟩) ?_ ?_; rotate_left; intro w'; go_simp; with_reducible rfl; rotate_left; simp only [Act.put, List.setIfInBounds_toArray, List.set_cons_zero, List.set_cons_succ, i64_w, i32_w]; rfl
        refine pure_ (i := 1) (N := some 73) (v := ?_) (a' := ?_) #[true, true, false, false, false, false, false, false, false, false] rfl rfl (any_of HT_.out (by kernel_rfl)) (fun _ _ _ h => h) (Or.inl ⟨by rfl, ?_⟩) ?_ ?_; rotate_left; intro w'; go_simp; with_reducible rfl; rotate_left; simp only [Act.put, List.setIfInBounds_toArray, List.set_cons_zero, List.set_cons_succ, i64_w, i32_w]; rfl
        refine pure_ (i := 4) (N := some 76) (v := ?_) (a' := ?_) #[true, true, false, false, true, false, false, false, false, false] rfl rfl (any_of HT_.out (by kernel_rfl)) (fun _ _ _ h => h) (Or.inl ⟨by rfl, ?_⟩) ?_ ?_; rotate_left; intro w'; go_simp; with_reducible rfl; rotate_left; simp only [Act.put, List.setIfInBounds_toArray, List.set_cons_zero, List.set_cons_succ, i64_w, i32_w]; rfl
        refine take_ (i := 5) (N := some 77) (v := ?_) (a' := ?_) #[true, true, false, false, true, true, false, false, false, false] rfl rfl (take_ofW HT_.out HW_.out (by kernel_rfl)) (fun _ _ _ h => h) (Or.inl ⟨by rfl, ?_⟩) hHeld ?_ ?_; rotate_left; rintro w' ⟨s0, s1⟩; go_simp; with_reducible rfl; rotate_left; simp only [Act.put, List.setIfInBounds_toArray, List.set_cons_zero, List.set_cons_succ, i64_w, i32_w]; rfl
        refine join_ (σ := Value × Value × Value) 3 #[true, true, true, true, true, true, true, false, false, false] (fun s_ => [(74, s_.1), (75, s_.2.1), (78, s_.2.2)]) (fun s_ w' => (w'.cell? ⟨gb211, 0, none⟩ = some (.int .i64 ((rd_T51 (rd_L5 x2_2 (rd x8_1 (ji14))) 0).f0)) ∧ w'.cell? ⟨gb211, 1, none⟩ = some (.bool true)) ∧ (Kd.V k51 51 w' w0.heap.size (fun k_ => (P2_ k_ ∨ w.heap.size ≤ k_) ∧ some k_ ≠ (s_.1 : Value).ownBlock ∧ some k_ ≠ (s_.2.1 : Value).ownBlock ∧ some k_ ≠ (s_.2.2 : Value).ownBlock ∧ some k_ ≠ (u10 : Value).ownBlock ∧ some k_ ≠ (.slice (some ⟨go23, 0, none⟩) x2_2.length co44 : Value).ownBlock ∧ some k_ ≠ (.slice (some ⟨go38, 0, none⟩) x7_2.length co53 : Value).ownBlock ∧ some k_ ≠ (.slice Ao59 x9_2.length co59 : Value).ownBlock ∧ k_ ≠ gb183 ∧ k_ ≠ gb211) (.slice (some ad210) (rd_L5 x2_2 (rd x8_1 (ji14))).length c194_0) (rd_L5 x2_2 (rd x8_1 (ji14)))) ∧ (Kd.V k51 51 w' w0.heap.size (fun k_ => (P2_ k_ ∨ w.heap.size ≤ k_) ∧ some k_ ≠ (s_.1 : Value).ownBlock ∧ some k_ ≠ (s_.2.1 : Value).ownBlock ∧ some k_ ≠ (s_.2.2 : Value).ownBlock ∧ some k_ ≠ (u10 : Value).ownBlock ∧ some k_ ≠ (.slice (some ⟨go23, 0, none⟩) x2_2.length co44 : Value).ownBlock ∧ some k_ ≠ (.slice (some ⟨go38, 0, none⟩) x7_2.length co53 : Value).ownBlock ∧ some k_ ≠ (.slice Ao59 x9_2.length co59 : Value).ownBlock ∧ k_ ≠ gb183 ∧ k_ ≠ gb211) (.slice (some ad210) (rd_L5 x2_2 (rd x8_1 (ji14))).length c194_0) (rd_L5 x2_2 (rd x8_1 (ji14)))) ∧ (Kd.V k51 51 w' w0.heap.size (fun k_ => (P2_ k_ ∨ w.heap.size ≤ k_) ∧ some k_ ≠ (s_.1 : Value).ownBlock ∧ some k_ ≠ (s_.2.1 : Value).ownBlock ∧ some k_ ≠ (s_.2.2 : Value).ownBlock ∧ some k_ ≠ (u10 : Value).ownBlock ∧ some k_ ≠ (.slice (some ⟨go23, 0, none⟩) x2_2.length co44 : Value).ownBlock ∧ some k_ ≠ (.slice (some ⟨go38, 0, none⟩) x7_2.length co53 : Value).ownBlock ∧ some k_ ≠ (.slice Ao59 x9_2.length co59 : Value).ownBlock ∧ k_ ≠ gb183 ∧ k_ ≠ gb211) (.slice A212_0 (rd_L5 x2_2 (rd x8_1 (ji14))).length c212_0) (rd_L5 x2_2 (rd x8_1 (ji14)))) ∧ (Kd.V k51 51 w' w0.heap.size (fun k_ => (P2_ k_ ∨ w.heap.size ≤ k_) ∧ some k_ ≠ (s_.1 : Value).ownBlock ∧ some k_ ≠ (s_.2.1 : Value).ownBlock ∧ some k_ ≠ (s_.2.2 : Value).ownBlock ∧ some k_ ≠ (u10 : Value).ownBlock ∧ some k_ ≠ (.slice (some ⟨go23, 0, none⟩) x2_2.length co44 : Value).ownBlock ∧ some k_ ≠ (.slice (some ⟨go38, 0, none⟩) x7_2.length co53 : Value).ownBlock ∧ some k_ ≠ (.slice Ao59 x9_2.length co59 : Value).ownBlock ∧ k_ ≠ gb183 ∧ k_ ≠ gb211) (.slice A49 y213.length c49) y213) ∧ (Kd.R (Kd.int .i64) 3 w' w0.heap.size (fun k_ => (P2_ k_ ∨ w.heap.size ≤ k_) ∧ some k_ ≠ (s_.2.1 : Value).ownBlock) s_.1 y223) ∧ (Kd.R (Kd.int .i64) 3 w' w0.heap.size (fun k_ => (P2_ k_ ∨ w.heap.size ≤ k_) ∧ some k_ ≠ (s_.1 : Value).ownBlock) s_.2.1 y226) ∧ (Kd.R k51 51 w' w0.heap.size (fun k_ => (P2_ k_ ∨ w.heap.size ≤ k_) ∧ some k_ ≠ (u10 : Value).ownBlock ∧ some k_ ≠ (.slice Ao59 x9_2.length co59 : Value).ownBlock ∧ k_ ≠ gb211) s_.2.2 y229) ∧ (Kd.R k51 51 w' w0.heap.size (fun k_ => (P2_ k_ ∨ w.heap.size ≤ k_) ∧ some k_ ≠ (s_.2.2 : Value).ownBlock ∧ some k_ ≠ (.slice Ao59 x9_2.length co59 : Value).ownBlock ∧ k_ ≠ gb211) u10 x10_1) ∧ (Kd.N (Kd.slice 51 k51) 26 w' w0.heap.size (fun k_ => (P2_ k_ ∨ w.heap.size ≤ k_) ∧ some k_ ≠ (s_.1 : Value).ownBlock ∧ some k_ ≠ (s_.2.1 : Value).ownBlock ∧ some k_ ≠ (s_.2.2 : Value).ownBlock ∧ some k_ ≠ (u10 : Value).ownBlock ∧ some k_ ≠ (.slice (some ⟨go38, 0, none⟩) x7_2.length co53 : Value).ownBlock ∧ some k_ ≠ (.slice Ao59 x9_2.length co59 : Value).ownBlock ∧ k_ ≠ gb183 ∧ k_ ≠ gb211) (.slice (some ⟨go23, 0, none⟩) x2_2.length co44) y218) ∧ (Kd.R Kd.bool 4 w' w0.heap.size (fun k_ => (P2_ k_ ∨ w.heap.size ≤ k_)) (.slice (some ⟨go38, 0, none⟩) x7_2.length co53) y220) ∧ (Kd.R k51 51 w' w0.heap.size (fun k_ => (P2_ k_ ∨ w.heap.size ≤ k_) ∧ some k_ ≠ (s_.2.2 : Value).ownBlock ∧ some k_ ≠ (u10 : Value).ownBlock ∧ k_ ≠ gb211) (.slice Ao59 x9_2.length co59) x9_2) ∧ (w'.heap[gb183]? = some (.cells #[.int .i64 a0_0, .slice (some ad221) l0_1.length c0_1] 24 (0, 0))) ∧ (w'.heap[gb211]? = some (.cells #[.int .i64 ((rd_T51 (rd_L5 x2_2 (rd x8_1 (ji14))) 0).f0), .bool true] 51 (0, 0))) ∧ (Kept w w' (fun k_ => P2_ k_)) ∧ (Below w0.heap.size w0 w')) ?_ ?_
        rotate_left
        ·
         intro hCont
         refine two_ (i := 2) (j := 6) (Ni := some 74) (Nj := some 78) #[true, true, true, false, true, true, false, false, false, false] #[true, true, false, false, true, true, true, false, false, false] rfl rfl rfl rfl (two_of HT_.out (by kernel_rfl)) (by decide) (by decide) (fun K hK => ?_) (fun K hK => ?_)
         ·
          skip
          refine Kd.R_lit_step (Kd.int .i64) _ 3 ?hg (N := 74) ?hd (xs := ([(rd_T45 l0_1 ((rd_T51 (rd_L5 x2_2 (rd x8_1 (ji14))) 0).f0)).f0] : List Int)) (inner := [.int .i64 ((rd_T45 l0_1 ((rd_T51 (rd_L5 x2_2 (rd x8_1 (ji14))) 0).f0)).f0)]) (ok := fun _ => True) (okp := fun _ => True) ?hr ?hp (fun _ hk => hk) trivial (Below.refl _ _) (Nat.le_refl _) (by simp) ?_; (case hd => rfl); (case hg => rfl); (case hr => first | (go_simp; done) | (go_simp; rfl)); (case hp => exact (Reps.one (show Kd.M (Kd.int .i64) _ _ _ ((rd_T45 l0_1 ((rd_T51 (rd_L5 x2_2 (rd x8_1 (ji14))) 0).f0)).f0) [.int .i64 ((rd_T45 l0_1 ((rd_T51 (rd_L5 x2_2 (rd x8_1 (ji14))) 0).f0)).f0)] from rfl) (Reps.none _ _)))
          intro v224 w61 ho62 hb hg_ hnew_
          clear hg_ hnew_
          (first | rw [← Ny223.out] at ho62 | (simp only [Int.reduceToNat] at ho62; rw [← Ny223.out] at ho62))
          have n0_ := ak (Kd.N_elder' (nx HO_2.out) (Kd.R_base ho62) hb)
          have n1_ := ak (Kd.R_below (rx HO_7.out) hb)
          have n2_ := ak (Kd.R_elder' (rx HO_8.out) (Kd.R_base ho62) hb)
          have n3_ := ak (Kd.R_below (rx HO_9.out) hb)
          have n4_ := ak (Kd.R_below (rx HO_10.out) hb)
          have n5_ := ak (Kd.V_elder' (vx HL194_0.out) (Kd.R_base ho62) hb)
          have n6_ := ak (Kd.V_elder' (vx HL209_0.out) (Kd.R_base ho62) hb)
          have n7_ := ak (Kd.V_elder' (vx HL212_0.out) (Kd.R_base ho62) hb)
          have n8_ := ak (Kd.V_elder' (vx HO217.out) (Kd.R_base ho62) hb)
          have n9_ := ak (Kd.R_lower (Kd.R_new' (Kd.R_newM (M := fun k_ => (P2_ k_ ∨ w.heap.size ≤ k_)) ho62 (by first | exact HK.out.1 | exact (show Kept w _ (fun k_ => P2_ k_) from lk).1) (fun k_ h_ => .inr h_)) (Kd.R_lt (rx HO_8.out))) (below_size lb))
          have n10_ := ak (blk_below (bx BK183.out) hb)
          have n11_ := ak (blk_below (bx BK211.out) hb)
          have n12_ := ak (Kept.below (S := (fun k_ => P2_ k_)) lk hb)
          have n13_ := ak (below_step lb hb)
          clear HO_2
          clear HO_7
          clear HO_8
          clear HO_9
          clear HO_10
          clear HL194_0
          clear HL209_0
          clear HL212_0
          clear HO217
          clear BK183
          clear BK211
          clear HK
          clear HB
          have HO_2 := n0_
          have HO_7 := n1_
          have HO_8 := n2_
          have HO_9 := n3_
          have HO_10 := n4_
          have HL194_0 := n5_
          have HL209_0 := n6_
          have HL212_0 := n7_
          have HO217 := n8_
          have HO225 := n9_
          have BK183 := n10_
          have BK211 := n11_
          have HK := n12_
          have HB := n13_
          clear n0_ n1_ n2_ n3_ n4_ n5_ n6_ n7_ n8_ n9_ n10_ n11_ n12_ n13_
          clear hb ho62
          obtain ⟨Ao64, co64, eo64⟩ := Kd.R_slice HO225.out
          (first | subst eo64 | (injection eo64 with f1_ f2_ f3_; have f4_ := f1_.symm; have f5_ := f3_.symm; clear f1_ f2_ f3_; subst f4_; subst f5_))
          refine hK.out _ _ ⟨(blk_cell BK211.out 0).trans rfl, (blk_cell BK211.out 1).trans rfl⟩ (fun hHeld => ?_)
          clear hK K
          refine norm_ (a' := ?_) ?_ ?_
          rotate_left
          ·
           show Act.put _ (some 74) _ = _
           simp only [Act.put, List.setIfInBounds_toArray, List.set_cons_zero, List.set_cons_succ, i64_w, i32_w]
           rfl
          refine two_ (i := 3) (j := 6) (Ni := some 75) (Nj := some 78) #[true, true, true, true, true, true, false, false, false, false] #[true, true, true, false, true, true, true, false, false, false] rfl rfl rfl rfl (two_of HT_.out (by kernel_rfl)) (by decide) (by decide) (fun K hK => ?_) (fun K hK => ?_)
          ·
           skip
           refine Kd.R_append_rows_step (Kd.int .i64) (w0 := w0) w0.heap.size (by rfl) (.tmp 72) (.tmp 74) 62 3 (.int .i64 0) 8 rfl Try.underlying62 info3 rfl (by decide) (by omega) (.slice Ao58 x8_2.length co58) x8_2 y223 _ _ _ (fun k_ => (P2_ k_ ∨ w.heap.size ≤ k_) ∧ some k_ ≠ (.slice Ao64 y223.length co64 : Value).ownBlock) (fun _ => False) rfl rfl ?aO ?aR (fun _ _ h => h) (fun _ h => h.elim) ?aF ?aB ?aS ?aL ?_
           (case aR => repeat (first | exact (Kd.R_reads' HO225.out).2.2 | (with_reducible refine Kd.C_alloc ?_ _) | (with_reducible refine Kd.C_drewN ?_ _) | (with_reducible refine Kd.C_drew ?_)))
           (case aB => exact lb)
           (case aF => exact (fun k_ hk => ⟨(.inr (Nat.le_trans (by first | exact HK.out.1 | exact (show Kept w _ (fun k_ => P2_ k_) from lk).1) hk)), Kd.fresh' (Kd.R_lt (rx HO225.out)) k_ hk⟩))
           (case aO => exact (rx HO_8.out))
           (case aS => exact (below_size lb))
           (case aL => have := LMc42.out; omega)
           intro v227 w63 ho hb hg hat
           rw [← Ny226.out] at ho
           have n0_ := ak (Kd.N_afterv (ok := (fun k_ => (P2_ k_ ∨ w.heap.size ≤ k_) ∧ some k_ ≠ (.slice (some ⟨go38, 0, none⟩) x7_2.length co53 : Value).ownBlock ∧ some k_ ≠ (.slice Ao59 x9_2.length co59 : Value).ownBlock ∧ some k_ ≠ (u10 : Value).ownBlock ∧ some k_ ≠ (.slice Ao64 y223.length co64 : Value).ownBlock ∧ k_ ≠ gb183 ∧ k_ ≠ gb211)) (by exact nx (Kd.N_mono HO_2.out (fun _ hk => ⟨⟨hk.1.1.1, ⟨hk.1.2, ⟨hk.1.1.2.2.1, ⟨hk.1.1.2.2.2.1, ⟨hk.2, ⟨hk.1.1.2.2.2.2.1, hk.1.1.2.2.2.2.2⟩⟩⟩⟩⟩⟩, hk.1.1.2.1⟩))) hg hat)
           have n1_ := ak (Kd.R_over' (rx HO_7.out) (Kd.R_typed (rx HO_8.out)) (by decide) hg)
           have n2_ := ak (Kd.R_over' (rx HO_9.out) (Kd.R_typed (rx HO_8.out)) (by decide) hg)
           have n3_ := ak (Kd.R_over' (rx HO_10.out) (Kd.R_typed (rx HO_8.out)) (by decide) hg)
           have n4_ := ak (blk_grown (bx BK183.out) hg (Kd.R_ne HO_8.out BK183.out (by decide)))
           have n5_ := ak (Kd.V_afterv (ok := (fun k_ => (P2_ k_ ∨ w.heap.size ≤ k_) ∧ some k_ ≠ (.slice (some ⟨go23, 0, none⟩) x2_2.length co44 : Value).ownBlock ∧ some k_ ≠ (.slice (some ⟨go38, 0, none⟩) x7_2.length co53 : Value).ownBlock ∧ some k_ ≠ (.slice Ao59 x9_2.length co59 : Value).ownBlock ∧ some k_ ≠ (u10 : Value).ownBlock ∧ some k_ ≠ (.slice Ao64 y223.length co64 : Value).ownBlock ∧ k_ ≠ gb183 ∧ k_ ≠ gb211)) (by exact vx (Kd.V_mono HL194_0.out (fun _ hk => ⟨⟨hk.1.1.1, ⟨hk.1.1.2.1, ⟨hk.1.2, ⟨hk.1.1.2.2.2.1, ⟨hk.1.1.2.2.2.2.1, ⟨hk.2, ⟨hk.1.1.2.2.2.2.2.1, hk.1.1.2.2.2.2.2.2⟩⟩⟩⟩⟩⟩⟩, hk.1.1.2.2.1⟩))) hg hat)
           have n6_ := ak (Kd.V_afterv (ok := (fun k_ => (P2_ k_ ∨ w.heap.size ≤ k_) ∧ some k_ ≠ (.slice (some ⟨go23, 0, none⟩) x2_2.length co44 : Value).ownBlock ∧ some k_ ≠ (.slice (some ⟨go38, 0, none⟩) x7_2.length co53 : Value).ownBlock ∧ some k_ ≠ (.slice Ao59 x9_2.length co59 : Value).ownBlock ∧ some k_ ≠ (u10 : Value).ownBlock ∧ some k_ ≠ (.slice Ao64 y223.length co64 : Value).ownBlock ∧ k_ ≠ gb183 ∧ k_ ≠ gb211)) (by exact vx (Kd.V_mono HL209_0.out (fun _ hk => ⟨⟨hk.1.1.1, ⟨hk.1.1.2.1, ⟨hk.1.2, ⟨hk.1.1.2.2.2.1, ⟨hk.1.1.2.2.2.2.1, ⟨hk.2, ⟨hk.1.1.2.2.2.2.2.1, hk.1.1.2.2.2.2.2.2⟩⟩⟩⟩⟩⟩⟩, hk.1.1.2.2.1⟩))) hg hat)
           have n7_ := ak (blk_grown (bx BK211.out) hg (Kd.R_ne HO_8.out BK211.out (by decide)))
           have n8_ := ak (Kd.V_afterv (ok := (fun k_ => (P2_ k_ ∨ w.heap.size ≤ k_) ∧ some k_ ≠ (.slice (some ⟨go23, 0, none⟩) x2_2.length co44 : Value).ownBlock ∧ some k_ ≠ (.slice (some ⟨go38, 0, none⟩) x7_2.length co53 : Value).ownBlock ∧ some k_ ≠ (.slice Ao59 x9_2.length co59 : Value).ownBlock ∧ some k_ ≠ (u10 : Value).ownBlock ∧ some k_ ≠ (.slice Ao64 y223.length co64 : Value).ownBlock ∧ k_ ≠ gb183 ∧ k_ ≠ gb211)) (by exact vx (Kd.V_mono HL212_0.out (fun _ hk => ⟨⟨hk.1.1.1, ⟨hk.1.1.2.1, ⟨hk.1.2, ⟨hk.1.1.2.2.2.1, ⟨hk.1.1.2.2.2.2.1, ⟨hk.2, ⟨hk.1.1.2.2.2.2.2.1, hk.1.1.2.2.2.2.2.2⟩⟩⟩⟩⟩⟩⟩, hk.1.1.2.2.1⟩))) hg hat)
           have n9_ := ak (Kd.V_afterv (ok := (fun k_ => (P2_ k_ ∨ w.heap.size ≤ k_) ∧ some k_ ≠ (.slice (some ⟨go23, 0, none⟩) x2_2.length co44 : Value).ownBlock ∧ some k_ ≠ (.slice (some ⟨go38, 0, none⟩) x7_2.length co53 : Value).ownBlock ∧ some k_ ≠ (.slice Ao59 x9_2.length co59 : Value).ownBlock ∧ some k_ ≠ (u10 : Value).ownBlock ∧ some k_ ≠ (.slice Ao64 y223.length co64 : Value).ownBlock ∧ k_ ≠ gb183 ∧ k_ ≠ gb211)) (by exact vx (Kd.V_mono HO217.out (fun _ hk => ⟨⟨hk.1.1.1, ⟨hk.1.1.2.1, ⟨hk.1.2, ⟨hk.1.1.2.2.2.1, ⟨hk.1.1.2.2.2.2.1, ⟨hk.2, ⟨hk.1.1.2.2.2.2.2.1, hk.1.1.2.2.2.2.2.2⟩⟩⟩⟩⟩⟩⟩, hk.1.1.2.2.1⟩))) hg hat)
           have n10_ := ak (Kd.R_after (ok := (fun k_ => (P2_ k_ ∨ w.heap.size ≤ k_))) (by exact rx (Kd.R_mono HO225.out (fun _ hk => ⟨hk.1.1, hk.2⟩))) hg hat)
           have n11_ := ak (hb)
           have n12_ := ak (Kept.of_grown (S := (fun k_ => P2_ k_)) hg lk (fun k_ e_ => (HO_8.out.1 k_ e_).1))
           have n13_ := ak (ho)
           clear HO_2
           clear HO_7
           clear HO_9
           clear HO_10
           clear BK183
           clear HL194_0
           clear HL209_0
           clear BK211
           clear HL212_0
           clear HO217
           clear HO225
           clear HB
           clear HK
           clear HO_8
           have HO_2 := n0_
           have HO_7 := n1_
           have HO_9 := n2_
           have HO_10 := n3_
           have BK183 := n4_
           have HL194_0 := n5_
           have HL209_0 := n6_
           have BK211 := n7_
           have HL212_0 := n8_
           have HO217 := n9_
           have HO225 := n10_
           have HB := n11_
           have HK := n12_
           have HO228 := n13_
           clear n0_ n1_ n2_ n3_ n4_ n5_ n6_ n7_ n8_ n9_ n10_ n11_ n12_ n13_
           clear ho hb hg hat
           refine hK.out _ _ ⟨(blk_cell BK211.out 0).trans rfl, (blk_cell BK211.out 1).trans rfl⟩ (fun hHeld => ?_)
           clear hK K
           refine norm_ (a' := ?_) ?_ ?_
           rotate_left
           ·
            show Act.put _ (some 75) _ = _
            simp only [Act.put, List.setIfInBounds_toArray, List.set_cons_zero, List.set_cons_succ, i64_w, i32_w]
            rfl
           refine one_ (i := 6) (N := some 78) #[true, true, true, true, true, true, true, false, false, false] rfl rfl (one_of HT_.out (by kernel_rfl)) (by decide) (fun K hK => ?_)
           refine Kd.R_lit_step k51 _ 51 ?hg (N := 78) ?hd (xs := ([(⟨(rd_T51 (rd_L5 x2_2 (rd x8_1 (ji14))) 0).f0, true⟩ : S51)] : List (S51))) (inner := [.int .i64 ((rd_T51 (rd_L5 x2_2 (rd x8_1 (ji14))) 0).f0), .bool true]) (ok := fun _ => True) (okp := fun _ => True) ?hr ?hp (fun _ hk => hk) trivial (Below.refl _ _) (Nat.le_refl _) (by simp) ?_; (case hd => rfl); (case hg => rfl); (case hr => first | (go_simp; done) | (go_simp; rfl)); (case hp => exact (Reps.c2 (show Kd.M k51 _ _ _ (⟨(rd_T51 (rd_L5 x2_2 (rd x8_1 (ji14))) 0).f0, true⟩ : S51) [.int .i64 ((rd_T51 (rd_L5 x2_2 (rd x8_1 (ji14))) 0).f0), .bool true] from (k51_mkM _ _ _ (⟨(rd_T51 (rd_L5 x2_2 (rd x8_1 (ji14))) 0).f0, true⟩ : S51) )) (Reps.none _ _)))
           intro v230 w65 ho66 hb hg_ hnew_
           clear hg_ hnew_
           (first | rw [← Ny229.out] at ho66 | (simp only [Int.reduceToNat] at ho66; rw [← Ny229.out] at ho66))
           have n0_ := ak (Kd.N_elder' (nx HO_2.out) (Kd.R_base ho66) hb)
           have n1_ := ak (Kd.R_below (rx HO_7.out) hb)
           have n2_ := ak (Kd.R_elder' (rx HO_9.out) (Kd.R_base ho66) hb)
           have n3_ := ak (Kd.R_elder' (rx HO_10.out) (Kd.R_base ho66) hb)
           have n4_ := ak (Kd.V_elder' (vx HL194_0.out) (Kd.R_base ho66) hb)
           have n5_ := ak (Kd.V_elder' (vx HL209_0.out) (Kd.R_base ho66) hb)
           have n6_ := ak (Kd.V_elder' (vx HL212_0.out) (Kd.R_base ho66) hb)
           have n7_ := ak (Kd.V_elder' (vx HO217.out) (Kd.R_base ho66) hb)
           have n8_ := ak (Kd.R_below (rx HO225.out) hb)
           have n9_ := ak (Kd.R_below (rx HO228.out) hb)
           have n10_ := ak (Kd.R_lower (Kd.R_newB (Kd.R_new' (Kd.R_new' (Kd.R_newM (M := fun k_ => (P2_ k_ ∨ w.heap.size ≤ k_)) ho66 (by first | exact HK.out.1 | exact (show Kept w _ (fun k_ => P2_ k_) from lk).1) (fun k_ h_ => .inr h_)) (Kd.R_lt (rx HO_9.out))) (Kd.R_lt (rx HO_10.out))) (g := gb211) (o := .cells #[.int .i64 ((rd_T51 (rd_L5 x2_2 (rd x8_1 (ji14))) 0).f0), .bool true] 51 (0, 0)) (bx BK211.out)) (below_size lb))
           have n11_ := ak (blk_below (bx BK183.out) hb)
           have n12_ := ak (blk_below (bx BK211.out) hb)
           have n13_ := ak (Kept.below (S := (fun k_ => P2_ k_)) lk hb)
           have n14_ := ak (below_step lb hb)
           clear HO_2
           clear HO_7
           clear HO_9
           clear HO_10
           clear HL194_0
           clear HL209_0
           clear HL212_0
           clear HO217
           clear HO225
           clear HO228
           clear BK183
           clear BK211
           clear HK
           clear HB
           have HO_2 := n0_
           have HO_7 := n1_
           have HO_9 := n2_
           have HO_10 := n3_
           have HL194_0 := n4_
           have HL209_0 := n5_
           have HL212_0 := n6_
           have HO217 := n7_
           have HO225 := n8_
           have HO228 := n9_
           have HO231 := n10_
           have BK183 := n11_
           have BK211 := n12_
           have HK := n13_
           have HB := n14_
           clear n0_ n1_ n2_ n3_ n4_ n5_ n6_ n7_ n8_ n9_ n10_ n11_ n12_ n13_ n14_
           clear hb ho66
           refine hK.out _ _ ⟨(blk_cell BK211.out 0).trans rfl, (blk_cell BK211.out 1).trans rfl⟩ (fun hHeld => ?_)
           clear hK K
           refine norm_ (a' := ?_) ?_ ?_
           rotate_left
           ·
            show Act.put _ (some 78) _ = _
            simp only [Act.put, List.setIfInBounds_toArray, List.set_cons_zero, List.set_cons_succ, i64_w, i32_w]
            rfl
           exact norm_ (by simp only [putAll, Act.put, List.setIfInBounds_toArray, List.set_cons_zero, List.set_cons_succ]) (hCont (.slice Ao64 y223.length co64, v227, v230) _ ⟨hHeld, (by exact vx (Kd.V_mono HL194_0.out (fun _ hk => ⟨hk.1.1.1, ⟨hk.1.1.2.2.2.2.2.1, ⟨hk.1.2, ⟨hk.2, ⟨hk.1.1.2.2.2.2.1, ⟨hk.1.1.2.1, ⟨hk.1.1.2.2.1, ⟨hk.1.1.2.2.2.1, ⟨hk.1.1.2.2.2.2.2.2.1, hk.1.1.2.2.2.2.2.2.2⟩⟩⟩⟩⟩⟩⟩⟩⟩))), (by exact vx (Kd.V_mono HL209_0.out (fun _ hk => ⟨hk.1.1.1, ⟨hk.1.1.2.2.2.2.2.1, ⟨hk.1.2, ⟨hk.2, ⟨hk.1.1.2.2.2.2.1, ⟨hk.1.1.2.1, ⟨hk.1.1.2.2.1, ⟨hk.1.1.2.2.2.1, ⟨hk.1.1.2.2.2.2.2.2.1, hk.1.1.2.2.2.2.2.2.2⟩⟩⟩⟩⟩⟩⟩⟩⟩))), (by exact vx (Kd.V_mono HL212_0.out (fun _ hk => ⟨hk.1.1.1, ⟨hk.1.1.2.2.2.2.2.1, ⟨hk.1.2, ⟨hk.2, ⟨hk.1.1.2.2.2.2.1, ⟨hk.1.1.2.1, ⟨hk.1.1.2.2.1, ⟨hk.1.1.2.2.2.1, ⟨hk.1.1.2.2.2.2.2.2.1, hk.1.1.2.2.2.2.2.2.2⟩⟩⟩⟩⟩⟩⟩⟩⟩))), (by exact vx (Kd.V_mono HO217.out (fun _ hk => ⟨hk.1.1.1, ⟨hk.1.1.2.2.2.2.2.1, ⟨hk.1.2, ⟨hk.2, ⟨hk.1.1.2.2.2.2.1, ⟨hk.1.1.2.1, ⟨hk.1.1.2.2.1, ⟨hk.1.1.2.2.2.1, ⟨hk.1.1.2.2.2.2.2.2.1, hk.1.1.2.2.2.2.2.2.2⟩⟩⟩⟩⟩⟩⟩⟩⟩))), (rx HO225.out), (rx HO228.out), (by exact rx (Kd.R_mono HO231.out (fun _ hk => ⟨hk.1.1.1.1, ⟨hk.1.2, ⟨hk.1.1.2, hk.2⟩⟩⟩))), (by exact rx (Kd.R_mono HO_10.out (fun _ hk => ⟨hk.1.1, ⟨hk.2, ⟨hk.1.2.1, hk.1.2.2⟩⟩⟩))), (by exact nx (Kd.N_mono HO_2.out (fun _ hk => ⟨hk.1.1.1, ⟨hk.1.1.2.2.2.2.1, ⟨hk.1.2, ⟨hk.2, ⟨hk.1.1.2.2.2.1, ⟨hk.1.1.2.1, ⟨hk.1.1.2.2.1, ⟨hk.1.1.2.2.2.2.2.1, hk.1.1.2.2.2.2.2.2⟩⟩⟩⟩⟩⟩⟩⟩))), (rx HO_7.out), (by exact rx (Kd.R_mono HO_9.out (fun _ hk => ⟨hk.1.1, ⟨hk.2, ⟨hk.1.2.1, hk.1.2.2⟩⟩⟩))), (bx BK183.out), (bx BK211.out), lk, lb⟩)
          ·
           skip
           refine Kd.R_lit_step k51 _ 51 ?hg (N := 78) ?hd (xs := ([(⟨(rd_T51 (rd_L5 x2_2 (rd x8_1 (ji14))) 0).f0, true⟩ : S51)] : List (S51))) (inner := [.int .i64 ((rd_T51 (rd_L5 x2_2 (rd x8_1 (ji14))) 0).f0), .bool true]) (ok := fun _ => True) (okp := fun _ => True) ?hr ?hp (fun _ hk => hk) trivial (Below.refl _ _) (Nat.le_refl _) (by simp) ?_; (case hd => rfl); (case hg => rfl); (case hr => first | (go_simp; done) | (go_simp; rfl)); (case hp => exact (Reps.c2 (show Kd.M k51 _ _ _ (⟨(rd_T51 (rd_L5 x2_2 (rd x8_1 (ji14))) 0).f0, true⟩ : S51) [.int .i64 ((rd_T51 (rd_L5 x2_2 (rd x8_1 (ji14))) 0).f0), .bool true] from (k51_mkM _ _ _ (⟨(rd_T51 (rd_L5 x2_2 (rd x8_1 (ji14))) 0).f0, true⟩ : S51) )) (Reps.none _ _)))
           intro v230 w63 ho64 hb hg_ hnew_
           clear hg_ hnew_
           (first | rw [← Ny229.out] at ho64 | (simp only [Int.reduceToNat] at ho64; rw [← Ny229.out] at ho64))
           have n0_ := ak (Kd.N_elder' (nx HO_2.out) (Kd.R_base ho64) hb)
           have n1_ := ak (Kd.R_below (rx HO_7.out) hb)
           have n2_ := ak (Kd.R_below (rx HO_8.out) hb)
           have n3_ := ak (Kd.R_elder' (rx HO_9.out) (Kd.R_base ho64) hb)
           have n4_ := ak (Kd.R_elder' (rx HO_10.out) (Kd.R_base ho64) hb)
           have n5_ := ak (Kd.V_elder' (vx HL194_0.out) (Kd.R_base ho64) hb)
           have n6_ := ak (Kd.V_elder' (vx HL209_0.out) (Kd.R_base ho64) hb)
           have n7_ := ak (Kd.V_elder' (vx HL212_0.out) (Kd.R_base ho64) hb)
           have n8_ := ak (Kd.V_elder' (vx HO217.out) (Kd.R_base ho64) hb)
           have n9_ := ak (Kd.R_below (rx HO225.out) hb)
           have n10_ := ak (Kd.R_lower (Kd.R_newB (Kd.R_new' (Kd.R_new' (Kd.R_newM (M := fun k_ => (P2_ k_ ∨ w.heap.size ≤ k_)) ho64 (by first | exact HK.out.1 | exact (show Kept w _ (fun k_ => P2_ k_) from lk).1) (fun k_ h_ => .inr h_)) (Kd.R_lt (rx HO_9.out))) (Kd.R_lt (rx HO_10.out))) (g := gb211) (o := .cells #[.int .i64 ((rd_T51 (rd_L5 x2_2 (rd x8_1 (ji14))) 0).f0), .bool true] 51 (0, 0)) (bx BK211.out)) (below_size lb))
           have n11_ := ak (blk_below (bx BK183.out) hb)
           have n12_ := ak (blk_below (bx BK211.out) hb)
           have n13_ := ak (Kept.below (S := (fun k_ => P2_ k_)) lk hb)
           have n14_ := ak (below_step lb hb)
           clear HO_2
           clear HO_7
           clear HO_8
           clear HO_9
           clear HO_10
           clear HL194_0
           clear HL209_0
           clear HL212_0
           clear HO217
           clear HO225
           clear BK183
           clear BK211
           clear HK
           clear HB
           have HO_2 := n0_
           have HO_7 := n1_
           have HO_8 := n2_
           have HO_9 := n3_
           have HO_10 := n4_
           have HL194_0 := n5_
           have HL209_0 := n6_
           have HL212_0 := n7_
           have HO217 := n8_
           have HO225 := n9_
           have HO231 := n10_
           have BK183 := n11_
           have BK211 := n12_
           have HK := n13_
           have HB := n14_
           clear n0_ n1_ n2_ n3_ n4_ n5_ n6_ n7_ n8_ n9_ n10_ n11_ n12_ n13_ n14_
           clear hb ho64
           obtain ⟨Ao66, co66, eo66⟩ := Kd.R_slice HO225.out
           (first | subst eo66 | (injection eo66 with f1_ f2_ f3_; have f4_ := f1_.symm; have f5_ := f3_.symm; clear f1_ f2_ f3_; subst f4_; subst f5_))
           refine hK.out _ _ ⟨(blk_cell BK211.out 0).trans rfl, (blk_cell BK211.out 1).trans rfl⟩ (fun hHeld => ?_)
           clear hK K
           refine norm_ (a' := ?_) ?_ ?_
           rotate_left
           ·
            show Act.put _ (some 78) _ = _
            simp only [Act.put, List.setIfInBounds_toArray, List.set_cons_zero, List.set_cons_succ, i64_w, i32_w]
            rfl
           refine one_ (i := 3) (N := some 75) #[true, true, true, true, true, true, true, false, false, false] rfl rfl (one_of HT_.out (by kernel_rfl)) (by decide) (fun K hK => ?_)
           refine Kd.R_append_rows_step (Kd.int .i64) (w0 := w0) w0.heap.size (by rfl) (.tmp 72) (.tmp 74) 62 3 (.int .i64 0) 8 rfl Try.underlying62 info3 rfl (by decide) (by omega) (.slice Ao58 x8_2.length co58) x8_2 y223 _ _ _ (fun k_ => (P2_ k_ ∨ w.heap.size ≤ k_) ∧ some k_ ≠ (.slice Ao66 y223.length co66 : Value).ownBlock) (fun _ => False) rfl rfl ?aO ?aR (fun _ _ h => h) (fun _ h => h.elim) ?aF ?aB ?aS ?aL ?_
           (case aR => repeat (first | exact (Kd.R_reads' HO225.out).2.2 | (with_reducible refine Kd.C_alloc ?_ _) | (with_reducible refine Kd.C_drewN ?_ _) | (with_reducible refine Kd.C_drew ?_)))
           (case aB => exact lb)
           (case aF => exact (fun k_ hk => ⟨(.inr (Nat.le_trans (by first | exact HK.out.1 | exact (show Kept w _ (fun k_ => P2_ k_) from lk).1) hk)), Kd.fresh' (Kd.R_lt (rx HO225.out)) k_ hk⟩))
           (case aO => exact (rx HO_8.out))
           (case aS => exact (below_size lb))
           (case aL => have := LMc42.out; omega)
           intro v227 w65 ho hb hg hat
           rw [← Ny226.out] at ho
           have n0_ := ak (Kd.N_afterv (ok := (fun k_ => (P2_ k_ ∨ w.heap.size ≤ k_) ∧ some k_ ≠ (.slice (some ⟨go38, 0, none⟩) x7_2.length co53 : Value).ownBlock ∧ some k_ ≠ (.slice Ao59 x9_2.length co59 : Value).ownBlock ∧ some k_ ≠ (u10 : Value).ownBlock ∧ some k_ ≠ (.slice Ao66 y223.length co66 : Value).ownBlock ∧ some k_ ≠ (v230 : Value).ownBlock ∧ k_ ≠ gb183 ∧ k_ ≠ gb211)) (by exact nx (Kd.N_mono HO_2.out (fun _ hk => ⟨⟨hk.1.1.1.1, ⟨hk.1.1.2, ⟨hk.1.1.1.2.2.1, ⟨hk.1.1.1.2.2.2.1, ⟨hk.1.2, ⟨hk.2, ⟨hk.1.1.1.2.2.2.2.1, hk.1.1.1.2.2.2.2.2⟩⟩⟩⟩⟩⟩⟩, hk.1.1.1.2.1⟩))) hg hat)
           have n1_ := ak (Kd.R_over' (rx HO_7.out) (Kd.R_typed (rx HO_8.out)) (by decide) hg)
           have n2_ := ak (Kd.R_over' (rx HO_9.out) (Kd.R_typed (rx HO_8.out)) (by decide) hg)
           have n3_ := ak (Kd.R_over' (rx HO_10.out) (Kd.R_typed (rx HO_8.out)) (by decide) hg)
           have n4_ := ak (blk_grown (bx BK183.out) hg (Kd.R_ne HO_8.out BK183.out (by decide)))
           have n5_ := ak (Kd.V_afterv (ok := (fun k_ => (P2_ k_ ∨ w.heap.size ≤ k_) ∧ some k_ ≠ (.slice (some ⟨go23, 0, none⟩) x2_2.length co44 : Value).ownBlock ∧ some k_ ≠ (.slice (some ⟨go38, 0, none⟩) x7_2.length co53 : Value).ownBlock ∧ some k_ ≠ (.slice Ao59 x9_2.length co59 : Value).ownBlock ∧ some k_ ≠ (u10 : Value).ownBlock ∧ some k_ ≠ (.slice Ao66 y223.length co66 : Value).ownBlock ∧ some k_ ≠ (v230 : Value).ownBlock ∧ k_ ≠ gb183 ∧ k_ ≠ gb211)) (by exact vx (Kd.V_mono HL194_0.out (fun _ hk => ⟨⟨hk.1.1.1.1, ⟨hk.1.1.1.2.1, ⟨hk.1.1.2, ⟨hk.1.1.1.2.2.2.1, ⟨hk.1.1.1.2.2.2.2.1, ⟨hk.1.2, ⟨hk.2, ⟨hk.1.1.1.2.2.2.2.2.1, hk.1.1.1.2.2.2.2.2.2⟩⟩⟩⟩⟩⟩⟩⟩, hk.1.1.1.2.2.1⟩))) hg hat)
           have n6_ := ak (Kd.V_afterv (ok := (fun k_ => (P2_ k_ ∨ w.heap.size ≤ k_) ∧ some k_ ≠ (.slice (some ⟨go23, 0, none⟩) x2_2.length co44 : Value).ownBlock ∧ some k_ ≠ (.slice (some ⟨go38, 0, none⟩) x7_2.length co53 : Value).ownBlock ∧ some k_ ≠ (.slice Ao59 x9_2.length co59 : Value).ownBlock ∧ some k_ ≠ (u10 : Value).ownBlock ∧ some k_ ≠ (.slice Ao66 y223.length co66 : Value).ownBlock ∧ some k_ ≠ (v230 : Value).ownBlock ∧ k_ ≠ gb183 ∧ k_ ≠ gb211)) (by exact vx (Kd.V_mono HL209_0.out (fun _ hk => ⟨⟨hk.1.1.1.1, ⟨hk.1.1.1.2.1, ⟨hk.1.1.2, ⟨hk.1.1.1.2.2.2.1, ⟨hk.1.1.1.2.2.2.2.1, ⟨hk.1.2, ⟨hk.2, ⟨hk.1.1.1.2.2.2.2.2.1, hk.1.1.1.2.2.2.2.2.2⟩⟩⟩⟩⟩⟩⟩⟩, hk.1.1.1.2.2.1⟩))) hg hat)
           have n7_ := ak (blk_grown (bx BK211.out) hg (Kd.R_ne HO_8.out BK211.out (by decide)))
           have n8_ := ak (Kd.V_afterv (ok := (fun k_ => (P2_ k_ ∨ w.heap.size ≤ k_) ∧ some k_ ≠ (.slice (some ⟨go23, 0, none⟩) x2_2.length co44 : Value).ownBlock ∧ some k_ ≠ (.slice (some ⟨go38, 0, none⟩) x7_2.length co53 : Value).ownBlock ∧ some k_ ≠ (.slice Ao59 x9_2.length co59 : Value).ownBlock ∧ some k_ ≠ (u10 : Value).ownBlock ∧ some k_ ≠ (.slice Ao66 y223.length co66 : Value).ownBlock ∧ some k_ ≠ (v230 : Value).ownBlock ∧ k_ ≠ gb183 ∧ k_ ≠ gb211)) (by exact vx (Kd.V_mono HL212_0.out (fun _ hk => ⟨⟨hk.1.1.1.1, ⟨hk.1.1.1.2.1, ⟨hk.1.1.2, ⟨hk.1.1.1.2.2.2.1, ⟨hk.1.1.1.2.2.2.2.1, ⟨hk.1.2, ⟨hk.2, ⟨hk.1.1.1.2.2.2.2.2.1, hk.1.1.1.2.2.2.2.2.2⟩⟩⟩⟩⟩⟩⟩⟩, hk.1.1.1.2.2.1⟩))) hg hat)
           have n9_ := ak (Kd.V_afterv (ok := (fun k_ => (P2_ k_ ∨ w.heap.size ≤ k_) ∧ some k_ ≠ (.slice (some ⟨go23, 0, none⟩) x2_2.length co44 : Value).ownBlock ∧ some k_ ≠ (.slice (some ⟨go38, 0, none⟩) x7_2.length co53 : Value).ownBlock ∧ some k_ ≠ (.slice Ao59 x9_2.length co59 : Value).ownBlock ∧ some k_ ≠ (u10 : Value).ownBlock ∧ some k_ ≠ (.slice Ao66 y223.length co66 : Value).ownBlock ∧ some k_ ≠ (v230 : Value).ownBlock ∧ k_ ≠ gb183 ∧ k_ ≠ gb211)) (by exact vx (Kd.V_mono HO217.out (fun _ hk => ⟨⟨hk.1.1.1.1, ⟨hk.1.1.1.2.1, ⟨hk.1.1.2, ⟨hk.1.1.1.2.2.2.1, ⟨hk.1.1.1.2.2.2.2.1, ⟨hk.1.2, ⟨hk.2, ⟨hk.1.1.1.2.2.2.2.2.1, hk.1.1.1.2.2.2.2.2.2⟩⟩⟩⟩⟩⟩⟩⟩, hk.1.1.1.2.2.1⟩))) hg hat)
           have n10_ := ak (Kd.R_after (ok := (fun k_ => (P2_ k_ ∨ w.heap.size ≤ k_))) (by exact rx (Kd.R_mono HO225.out (fun _ hk => ⟨hk.1.1, hk.2⟩))) hg hat)
           have n11_ := ak (Kd.R_over' (rx HO231.out) (Kd.R_typed (rx HO_8.out)) (by decide) hg)
           have n12_ := ak (hb)
           have n13_ := ak (Kept.of_grown (S := (fun k_ => P2_ k_)) hg lk (fun k_ e_ => (HO_8.out.1 k_ e_).1))
           have n14_ := ak (ho)
           clear HO_2
           clear HO_7
           clear HO_9
           clear HO_10
           clear BK183
           clear HL194_0
           clear HL209_0
           clear BK211
           clear HL212_0
           clear HO217
           clear HO225
           clear HO231
           clear HB
           clear HK
           clear HO_8
           have HO_2 := n0_
           have HO_7 := n1_
           have HO_9 := n2_
           have HO_10 := n3_
           have BK183 := n4_
           have HL194_0 := n5_
           have HL209_0 := n6_
           have BK211 := n7_
           have HL212_0 := n8_
           have HO217 := n9_
           have HO225 := n10_
           have HO231 := n11_
           have HB := n12_
           have HK := n13_
           have HO228 := n14_
           clear n0_ n1_ n2_ n3_ n4_ n5_ n6_ n7_ n8_ n9_ n10_ n11_ n12_ n13_ n14_
           clear ho hb hg hat
           refine hK.out _ _ ⟨(blk_cell BK211.out 0).trans rfl, (blk_cell BK211.out 1).trans rfl⟩ (fun hHeld => ?_)
           clear hK K
           refine norm_ (a' := ?_) ?_ ?_
           rotate_left
           ·
            show Act.put _ (some 75) _ = _
            simp only [Act.put, List.setIfInBounds_toArray, List.set_cons_zero, List.set_cons_succ, i64_w, i32_w]
            rfl
           exact norm_ (by simp only [putAll, Act.put, List.setIfInBounds_toArray, List.set_cons_zero, List.set_cons_succ]) (hCont (.slice Ao66 y223.length co66, v227, v230) _ ⟨hHeld, (by exact vx (Kd.V_mono HL194_0.out (fun _ hk => ⟨hk.1.1, ⟨hk.1.2.2.2.2.2.1, ⟨hk.2, ⟨hk.1.2.2.2.2.2.2.1, ⟨hk.1.2.2.2.2.1, ⟨hk.1.2.1, ⟨hk.1.2.2.1, ⟨hk.1.2.2.2.1, ⟨hk.1.2.2.2.2.2.2.2.1, hk.1.2.2.2.2.2.2.2.2⟩⟩⟩⟩⟩⟩⟩⟩⟩))), (by exact vx (Kd.V_mono HL209_0.out (fun _ hk => ⟨hk.1.1, ⟨hk.1.2.2.2.2.2.1, ⟨hk.2, ⟨hk.1.2.2.2.2.2.2.1, ⟨hk.1.2.2.2.2.1, ⟨hk.1.2.1, ⟨hk.1.2.2.1, ⟨hk.1.2.2.2.1, ⟨hk.1.2.2.2.2.2.2.2.1, hk.1.2.2.2.2.2.2.2.2⟩⟩⟩⟩⟩⟩⟩⟩⟩))), (by exact vx (Kd.V_mono HL212_0.out (fun _ hk => ⟨hk.1.1, ⟨hk.1.2.2.2.2.2.1, ⟨hk.2, ⟨hk.1.2.2.2.2.2.2.1, ⟨hk.1.2.2.2.2.1, ⟨hk.1.2.1, ⟨hk.1.2.2.1, ⟨hk.1.2.2.2.1, ⟨hk.1.2.2.2.2.2.2.2.1, hk.1.2.2.2.2.2.2.2.2⟩⟩⟩⟩⟩⟩⟩⟩⟩))), (by exact vx (Kd.V_mono HO217.out (fun _ hk => ⟨hk.1.1, ⟨hk.1.2.2.2.2.2.1, ⟨hk.2, ⟨hk.1.2.2.2.2.2.2.1, ⟨hk.1.2.2.2.2.1, ⟨hk.1.2.1, ⟨hk.1.2.2.1, ⟨hk.1.2.2.2.1, ⟨hk.1.2.2.2.2.2.2.2.1, hk.1.2.2.2.2.2.2.2.2⟩⟩⟩⟩⟩⟩⟩⟩⟩))), (rx HO225.out), (rx HO228.out), (by exact rx (Kd.R_mono HO231.out (fun _ hk => ⟨hk.1.1.1.1, ⟨hk.1.2, ⟨hk.1.1.2, hk.2⟩⟩⟩))), (by exact rx (Kd.R_mono HO_10.out (fun _ hk => ⟨hk.1.1, ⟨hk.2, ⟨hk.1.2.1, hk.1.2.2⟩⟩⟩))), (by exact nx (Kd.N_mono HO_2.out (fun _ hk => ⟨hk.1.1, ⟨hk.1.2.2.2.2.1, ⟨hk.2, ⟨hk.1.2.2.2.2.2.1, ⟨hk.1.2.2.2.1, ⟨hk.1.2.1, ⟨hk.1.2.2.1, ⟨hk.1.2.2.2.2.2.2.1, hk.1.2.2.2.2.2.2.2⟩⟩⟩⟩⟩⟩⟩⟩))), (rx HO_7.out), (by exact rx (Kd.R_mono HO_9.out (fun _ hk => ⟨hk.1.1, ⟨hk.2, ⟨hk.1.2.1, hk.1.2.2⟩⟩⟩))), (bx BK183.out), (bx BK211.out), lk, lb⟩)
         ·
          skip
          refine Kd.R_lit_step k51 _ 51 ?hg (N := 78) ?hd (xs := ([(⟨(rd_T51 (rd_L5 x2_2 (rd x8_1 (ji14))) 0).f0, true⟩ : S51)] : List (S51))) (inner := [.int .i64 ((rd_T51 (rd_L5 x2_2 (rd x8_1 (ji14))) 0).f0), .bool true]) (ok := fun _ => True) (okp := fun _ => True) ?hr ?hp (fun _ hk => hk) trivial (Below.refl _ _) (Nat.le_refl _) (by simp) ?_; (case hd => rfl); (case hg => rfl); (case hr => first | (go_simp; done) | (go_simp; rfl)); (case hp => exact (Reps.c2 (show Kd.M k51 _ _ _ (⟨(rd_T51 (rd_L5 x2_2 (rd x8_1 (ji14))) 0).f0, true⟩ : S51) [.int .i64 ((rd_T51 (rd_L5 x2_2 (rd x8_1 (ji14))) 0).f0), .bool true] from (k51_mkM _ _ _ (⟨(rd_T51 (rd_L5 x2_2 (rd x8_1 (ji14))) 0).f0, true⟩ : S51) )) (Reps.none _ _)))
          intro v230 w61 ho62 hb hg_ hnew_
          clear hg_ hnew_
          (first | rw [← Ny229.out] at ho62 | (simp only [Int.reduceToNat] at ho62; rw [← Ny229.out] at ho62))
          have n0_ := ak (Kd.N_elder' (nx HO_2.out) (Kd.R_base ho62) hb)
          have n1_ := ak (Kd.R_below (rx HO_7.out) hb)
          have n2_ := ak (Kd.R_below (rx HO_8.out) hb)
          have n3_ := ak (Kd.R_elder' (rx HO_9.out) (Kd.R_base ho62) hb)
          have n4_ := ak (Kd.R_elder' (rx HO_10.out) (Kd.R_base ho62) hb)
          have n5_ := ak (Kd.V_elder' (vx HL194_0.out) (Kd.R_base ho62) hb)
          have n6_ := ak (Kd.V_elder' (vx HL209_0.out) (Kd.R_base ho62) hb)
          have n7_ := ak (Kd.V_elder' (vx HL212_0.out) (Kd.R_base ho62) hb)
          have n8_ := ak (Kd.V_elder' (vx HO217.out) (Kd.R_base ho62) hb)
          have n9_ := ak (Kd.R_lower (Kd.R_newB (Kd.R_new' (Kd.R_new' (Kd.R_newM (M := fun k_ => (P2_ k_ ∨ w.heap.size ≤ k_)) ho62 (by first | exact HK.out.1 | exact (show Kept w _ (fun k_ => P2_ k_) from lk).1) (fun k_ h_ => .inr h_)) (Kd.R_lt (rx HO_9.out))) (Kd.R_lt (rx HO_10.out))) (g := gb211) (o := .cells #[.int .i64 ((rd_T51 (rd_L5 x2_2 (rd x8_1 (ji14))) 0).f0), .bool true] 51 (0, 0)) (bx BK211.out)) (below_size lb))
          have n10_ := ak (blk_below (bx BK183.out) hb)
          have n11_ := ak (blk_below (bx BK211.out) hb)
          have n12_ := ak (Kept.below (S := (fun k_ => P2_ k_)) lk hb)
          have n13_ := ak (below_step lb hb)
          clear HO_2
          clear HO_7
          clear HO_8
          clear HO_9
          clear HO_10
          clear HL194_0
          clear HL209_0
          clear HL212_0
          clear HO217
          clear BK183
          clear BK211
          clear HK
          clear HB
          have HO_2 := n0_
          have HO_7 := n1_
          have HO_8 := n2_
          have HO_9 := n3_
          have HO_10 := n4_
          have HL194_0 := n5_
          have HL209_0 := n6_
          have HL212_0 := n7_
          have HO217 := n8_
          have HO231 := n9_
          have BK183 := n10_
          have BK211 := n11_
          have HK := n12_
          have HB := n13_
          clear n0_ n1_ n2_ n3_ n4_ n5_ n6_ n7_ n8_ n9_ n10_ n11_ n12_ n13_
          clear hb ho62
          refine hK.out _ _ ⟨(blk_cell BK211.out 0).trans rfl, (blk_cell BK211.out 1).trans rfl⟩ (fun hHeld => ?_)
          clear hK K
          refine norm_ (a' := ?_) ?_ ?_
          rotate_left
          ·
           show Act.put _ (some 78) _ = _
           simp only [Act.put, List.setIfInBounds_toArray, List.set_cons_zero, List.set_cons_succ, i64_w, i32_w]
           rfl
          refine one_ (i := 2) (N := some 74) #[true, true, true, false, true, true, true, false, false, false] rfl rfl (one_of HT_.out (by kernel_rfl)) (by decide) (fun K hK => ?_)
          refine Kd.R_lit_step (Kd.int .i64) _ 3 ?hg (N := 74) ?hd (xs := ([(rd_T45 l0_1 ((rd_T51 (rd_L5 x2_2 (rd x8_1 (ji14))) 0).f0)).f0] : List Int)) (inner := [.int .i64 ((rd_T45 l0_1 ((rd_T51 (rd_L5 x2_2 (rd x8_1 (ji14))) 0).f0)).f0)]) (ok := fun _ => True) (okp := fun _ => True) ?hr ?hp (fun _ hk => hk) trivial (Below.refl _ _) (Nat.le_refl _) (by simp) ?_; (case hd => rfl); (case hg => rfl); (case hr => first | (go_simp; done) | (go_simp; rfl)); (case hp => exact (Reps.one (show Kd.M (Kd.int .i64) _ _ _ ((rd_T45 l0_1 ((rd_T51 (rd_L5 x2_2 (rd x8_1 (ji14))) 0).f0)).f0) [.int .i64 ((rd_T45 l0_1 ((rd_T51 (rd_L5 x2_2 (rd x8_1 (ji14))) 0).f0)).f0)] from rfl) (Reps.none _ _)))
          intro v224 w63 ho64 hb hg_ hnew_
          clear hg_ hnew_
          (first | rw [← Ny223.out] at ho64 | (simp only [Int.reduceToNat] at ho64; rw [← Ny223.out] at ho64))
          have n0_ := ak (Kd.N_elder' (nx HO_2.out) (Kd.R_base ho64) hb)
          have n1_ := ak (Kd.R_below (rx HO_7.out) hb)
          have n2_ := ak (Kd.R_elder' (rx HO_8.out) (Kd.R_base ho64) hb)
          have n3_ := ak (Kd.R_below (rx HO_9.out) hb)
          have n4_ := ak (Kd.R_below (rx HO_10.out) hb)
          have n5_ := ak (Kd.V_elder' (vx HL194_0.out) (Kd.R_base ho64) hb)
          have n6_ := ak (Kd.V_elder' (vx HL209_0.out) (Kd.R_base ho64) hb)
          have n7_ := ak (Kd.V_elder' (vx HL212_0.out) (Kd.R_base ho64) hb)
          have n8_ := ak (Kd.V_elder' (vx HO217.out) (Kd.R_base ho64) hb)
          have n9_ := ak (Kd.R_below (rx HO231.out) hb)
          have n10_ := ak (Kd.R_lower (Kd.R_new' (Kd.R_newM (M := fun k_ => (P2_ k_ ∨ w.heap.size ≤ k_)) ho64 (by first | exact HK.out.1 | exact (show Kept w _ (fun k_ => P2_ k_) from lk).1) (fun k_ h_ => .inr h_)) (Kd.R_lt (rx HO_8.out))) (below_size lb))
          have n11_ := ak (blk_below (bx BK183.out) hb)
          have n12_ := ak (blk_below (bx BK211.out) hb)
          have n13_ := ak (Kept.below (S := (fun k_ => P2_ k_)) lk hb)
          have n14_ := ak (below_step lb hb)
          clear HO_2
          clear HO_7
          clear HO_8
          clear HO_9
          clear HO_10
          clear HL194_0
          clear HL209_0
          clear HL212_0
          clear HO217
          clear HO231
          clear BK183
          clear BK211
          clear HK
          clear HB
          have HO_2 := n0_
          have HO_7 := n1_
          have HO_8 := n2_
          have HO_9 := n3_
          have HO_10 := n4_
          have HL194_0 := n5_
          have HL209_0 := n6_
          have HL212_0 := n7_
          have HO217 := n8_
          have HO231 := n9_
          have HO225 := n10_
          have BK183 := n11_
          have BK211 := n12_
          have HK := n13_
          have HB := n14_
          clear n0_ n1_ n2_ n3_ n4_ n5_ n6_ n7_ n8_ n9_ n10_ n11_ n12_ n13_ n14_
          clear hb ho64
          obtain ⟨Ao66, co66, eo66⟩ := Kd.R_slice HO225.out
          (first | subst eo66 | (injection eo66 with f1_ f2_ f3_; have f4_ := f1_.symm; have f5_ := f3_.symm; clear f1_ f2_ f3_; subst f4_; subst f5_))
          refine hK.out _ _ ⟨(blk_cell BK211.out 0).trans rfl, (blk_cell BK211.out 1).trans rfl⟩ (fun hHeld => ?_)
          clear hK K
          refine norm_ (a' := ?_) ?_ ?_
          rotate_left
          ·
           show Act.put _ (some 74) _ = _
           simp only [Act.put, List.setIfInBounds_toArray, List.set_cons_zero, List.set_cons_succ, i64_w, i32_w]
           rfl
          refine one_ (i := 3) (N := some 75) #[true, true, true, true, true, true, true, false, false, false] rfl rfl (one_of HT_.out (by kernel_rfl)) (by decide) (fun K hK => ?_)
          refine Kd.R_append_rows_step (Kd.int .i64) (w0 := w0) w0.heap.size (by rfl) (.tmp 72) (.tmp 74) 62 3 (.int .i64 0) 8 rfl Try.underlying62 info3 rfl (by decide) (by omega) (.slice Ao58 x8_2.length co58) x8_2 y223 _ _ _ (fun k_ => (P2_ k_ ∨ w.heap.size ≤ k_) ∧ some k_ ≠ (.slice Ao66 y223.length co66 : Value).ownBlock) (fun _ => False) rfl rfl ?aO ?aR (fun _ _ h => h) (fun _ h => h.elim) ?aF ?aB ?aS ?aL ?_
          (case aR => repeat (first | exact (Kd.R_reads' HO225.out).2.2 | (with_reducible refine Kd.C_alloc ?_ _) | (with_reducible refine Kd.C_drewN ?_ _) | (with_reducible refine Kd.C_drew ?_)))
          (case aB => exact lb)
          (case aF => exact (fun k_ hk => ⟨(.inr (Nat.le_trans (by first | exact HK.out.1 | exact (show Kept w _ (fun k_ => P2_ k_) from lk).1) hk)), Kd.fresh' (Kd.R_lt (rx HO225.out)) k_ hk⟩))
          (case aO => exact (rx HO_8.out))
          (case aS => exact (below_size lb))
          (case aL => have := LMc42.out; omega)
          intro v227 w65 ho hb hg hat
          rw [← Ny226.out] at ho
          have n0_ := ak (Kd.N_afterv (ok := (fun k_ => (P2_ k_ ∨ w.heap.size ≤ k_) ∧ some k_ ≠ (.slice (some ⟨go38, 0, none⟩) x7_2.length co53 : Value).ownBlock ∧ some k_ ≠ (.slice Ao59 x9_2.length co59 : Value).ownBlock ∧ some k_ ≠ (u10 : Value).ownBlock ∧ some k_ ≠ (v230 : Value).ownBlock ∧ some k_ ≠ (.slice Ao66 y223.length co66 : Value).ownBlock ∧ k_ ≠ gb183 ∧ k_ ≠ gb211)) (by exact nx (Kd.N_mono HO_2.out (fun _ hk => ⟨⟨hk.1.1.1.1, ⟨hk.1.1.2, ⟨hk.1.1.1.2.2.1, ⟨hk.1.1.1.2.2.2.1, ⟨hk.1.2, ⟨hk.2, ⟨hk.1.1.1.2.2.2.2.1, hk.1.1.1.2.2.2.2.2⟩⟩⟩⟩⟩⟩⟩, hk.1.1.1.2.1⟩))) hg hat)
          have n1_ := ak (Kd.R_over' (rx HO_7.out) (Kd.R_typed (rx HO_8.out)) (by decide) hg)
          have n2_ := ak (Kd.R_over' (rx HO_9.out) (Kd.R_typed (rx HO_8.out)) (by decide) hg)
          have n3_ := ak (Kd.R_over' (rx HO_10.out) (Kd.R_typed (rx HO_8.out)) (by decide) hg)
          have n4_ := ak (blk_grown (bx BK183.out) hg (Kd.R_ne HO_8.out BK183.out (by decide)))
          have n5_ := ak (Kd.V_afterv (ok := (fun k_ => (P2_ k_ ∨ w.heap.size ≤ k_) ∧ some k_ ≠ (.slice (some ⟨go23, 0, none⟩) x2_2.length co44 : Value).ownBlock ∧ some k_ ≠ (.slice (some ⟨go38, 0, none⟩) x7_2.length co53 : Value).ownBlock ∧ some k_ ≠ (.slice Ao59 x9_2.length co59 : Value).ownBlock ∧ some k_ ≠ (u10 : Value).ownBlock ∧ some k_ ≠ (v230 : Value).ownBlock ∧ some k_ ≠ (.slice Ao66 y223.length co66 : Value).ownBlock ∧ k_ ≠ gb183 ∧ k_ ≠ gb211)) (by exact vx (Kd.V_mono HL194_0.out (fun _ hk => ⟨⟨hk.1.1.1.1, ⟨hk.1.1.1.2.1, ⟨hk.1.1.2, ⟨hk.1.1.1.2.2.2.1, ⟨hk.1.1.1.2.2.2.2.1, ⟨hk.1.2, ⟨hk.2, ⟨hk.1.1.1.2.2.2.2.2.1, hk.1.1.1.2.2.2.2.2.2⟩⟩⟩⟩⟩⟩⟩⟩, hk.1.1.1.2.2.1⟩))) hg hat)
          have n6_ := ak (Kd.V_afterv (ok := (fun k_ => (P2_ k_ ∨ w.heap.size ≤ k_) ∧ some k_ ≠ (.slice (some ⟨go23, 0, none⟩) x2_2.length co44 : Value).ownBlock ∧ some k_ ≠ (.slice (some ⟨go38, 0, none⟩) x7_2.length co53 : Value).ownBlock ∧ some k_ ≠ (.slice Ao59 x9_2.length co59 : Value).ownBlock ∧ some k_ ≠ (u10 : Value).ownBlock ∧ some k_ ≠ (v230 : Value).ownBlock ∧ some k_ ≠ (.slice Ao66 y223.length co66 : Value).ownBlock ∧ k_ ≠ gb183 ∧ k_ ≠ gb211)) (by exact vx (Kd.V_mono HL209_0.out (fun _ hk => ⟨⟨hk.1.1.1.1, ⟨hk.1.1.1.2.1, ⟨hk.1.1.2, ⟨hk.1.1.1.2.2.2.1, ⟨hk.1.1.1.2.2.2.2.1, ⟨hk.1.2, ⟨hk.2, ⟨hk.1.1.1.2.2.2.2.2.1, hk.1.1.1.2.2.2.2.2.2⟩⟩⟩⟩⟩⟩⟩⟩, hk.1.1.1.2.2.1⟩))) hg hat)
          have n7_ := ak (blk_grown (bx BK211.out) hg (Kd.R_ne HO_8.out BK211.out (by decide)))
          have n8_ := ak (Kd.V_afterv (ok := (fun k_ => (P2_ k_ ∨ w.heap.size ≤ k_) ∧ some k_ ≠ (.slice (some ⟨go23, 0, none⟩) x2_2.length co44 : Value).ownBlock ∧ some k_ ≠ (.slice (some ⟨go38, 0, none⟩) x7_2.length co53 : Value).ownBlock ∧ some k_ ≠ (.slice Ao59 x9_2.length co59 : Value).ownBlock ∧ some k_ ≠ (u10 : Value).ownBlock ∧ some k_ ≠ (v230 : Value).ownBlock ∧ some k_ ≠ (.slice Ao66 y223.length co66 : Value).ownBlock ∧ k_ ≠ gb183 ∧ k_ ≠ gb211)) (by exact vx (Kd.V_mono HL212_0.out (fun _ hk => ⟨⟨hk.1.1.1.1, ⟨hk.1.1.1.2.1, ⟨hk.1.1.2, ⟨hk.1.1.1.2.2.2.1, ⟨hk.1.1.1.2.2.2.2.1, ⟨hk.1.2, ⟨hk.2, ⟨hk.1.1.1.2.2.2.2.2.1, hk.1.1.1.2.2.2.2.2.2⟩⟩⟩⟩⟩⟩⟩⟩, hk.1.1.1.2.2.1⟩))) hg hat)
          have n9_ := ak (Kd.V_afterv (ok := (fun k_ => (P2_ k_ ∨ w.heap.size ≤ k_) ∧ some k_ ≠ (.slice (some ⟨go23, 0, none⟩) x2_2.length co44 : Value).ownBlock ∧ some k_ ≠ (.slice (some ⟨go38, 0, none⟩) x7_2.length co53 : Value).ownBlock ∧ some k_ ≠ (.slice Ao59 x9_2.length co59 : Value).ownBlock ∧ some k_ ≠ (u10 : Value).ownBlock ∧ some k_ ≠ (v230 : Value).ownBlock ∧ some k_ ≠ (.slice Ao66 y223.length co66 : Value).ownBlock ∧ k_ ≠ gb183 ∧ k_ ≠ gb211)) (by exact vx (Kd.V_mono HO217.out (fun _ hk => ⟨⟨hk.1.1.1.1, ⟨hk.1.1.1.2.1, ⟨hk.1.1.2, ⟨hk.1.1.1.2.2.2.1, ⟨hk.1.1.1.2.2.2.2.1, ⟨hk.1.2, ⟨hk.2, ⟨hk.1.1.1.2.2.2.2.2.1, hk.1.1.1.2.2.2.2.2.2⟩⟩⟩⟩⟩⟩⟩⟩, hk.1.1.1.2.2.1⟩))) hg hat)
          have n10_ := ak (Kd.R_over' (rx HO231.out) (Kd.R_typed (rx HO_8.out)) (by decide) hg)
          have n11_ := ak (Kd.R_after (ok := (fun k_ => (P2_ k_ ∨ w.heap.size ≤ k_))) (by exact rx (Kd.R_mono HO225.out (fun _ hk => ⟨hk.1.1, hk.2⟩))) hg hat)
          have n12_ := ak (hb)
          have n13_ := ak (Kept.of_grown (S := (fun k_ => P2_ k_)) hg lk (fun k_ e_ => (HO_8.out.1 k_ e_).1))
          have n14_ := ak (ho)
          clear HO_2
          clear HO_7
          clear HO_9
          clear HO_10
          clear BK183
          clear HL194_0
          clear HL209_0
          clear BK211
          clear HL212_0
          clear HO217
          clear HO231
          clear HO225
          clear HB
          clear HK
          clear HO_8
          have HO_2 := n0_
          have HO_7 := n1_
          have HO_9 := n2_
          have HO_10 := n3_
          have BK183 := n4_
          have HL194_0 := n5_
          have HL209_0 := n6_
          have BK211 := n7_
          have HL212_0 := n8_
          have HO217 := n9_
          have HO231 := n10_
          have HO225 := n11_
          have HB := n12_
          have HK := n13_
          have HO228 := n14_
          clear n0_ n1_ n2_ n3_ n4_ n5_ n6_ n7_ n8_ n9_ n10_ n11_ n12_ n13_ n14_
          clear ho hb hg hat
          refine hK.out _ _ ⟨(blk_cell BK211.out 0).trans rfl, (blk_cell BK211.out 1).trans rfl⟩ (fun hHeld => ?_)
          clear hK K
          refine norm_ (a' := ?_) ?_ ?_
          rotate_left
          ·
           show Act.put _ (some 75) _ = _
           simp only [Act.put, List.setIfInBounds_toArray, List.set_cons_zero, List.set_cons_succ, i64_w, i32_w]
           rfl
          exact norm_ (by simp only [putAll, Act.put, List.setIfInBounds_toArray, List.set_cons_zero, List.set_cons_succ]) (hCont (.slice Ao66 y223.length co66, v227, v230) _ ⟨hHeld, (by exact vx (Kd.V_mono HL194_0.out (fun _ hk => ⟨hk.1.1, ⟨hk.1.2.2.2.2.2.2.1, ⟨hk.2, ⟨hk.1.2.2.2.2.2.1, ⟨hk.1.2.2.2.2.1, ⟨hk.1.2.1, ⟨hk.1.2.2.1, ⟨hk.1.2.2.2.1, ⟨hk.1.2.2.2.2.2.2.2.1, hk.1.2.2.2.2.2.2.2.2⟩⟩⟩⟩⟩⟩⟩⟩⟩))), (by exact vx (Kd.V_mono HL209_0.out (fun _ hk => ⟨hk.1.1, ⟨hk.1.2.2.2.2.2.2.1, ⟨hk.2, ⟨hk.1.2.2.2.2.2.1, ⟨hk.1.2.2.2.2.1, ⟨hk.1.2.1, ⟨hk.1.2.2.1, ⟨hk.1.2.2.2.1, ⟨hk.1.2.2.2.2.2.2.2.1, hk.1.2.2.2.2.2.2.2.2⟩⟩⟩⟩⟩⟩⟩⟩⟩))), (by exact vx (Kd.V_mono HL212_0.out (fun _ hk => ⟨hk.1.1, ⟨hk.1.2.2.2.2.2.2.1, ⟨hk.2, ⟨hk.1.2.2.2.2.2.1, ⟨hk.1.2.2.2.2.1, ⟨hk.1.2.1, ⟨hk.1.2.2.1, ⟨hk.1.2.2.2.1, ⟨hk.1.2.2.2.2.2.2.2.1, hk.1.2.2.2.2.2.2.2.2⟩⟩⟩⟩⟩⟩⟩⟩⟩))), (by exact vx (Kd.V_mono HO217.out (fun _ hk => ⟨hk.1.1, ⟨hk.1.2.2.2.2.2.2.1, ⟨hk.2, ⟨hk.1.2.2.2.2.2.1, ⟨hk.1.2.2.2.2.1, ⟨hk.1.2.1, ⟨hk.1.2.2.1, ⟨hk.1.2.2.2.1, ⟨hk.1.2.2.2.2.2.2.2.1, hk.1.2.2.2.2.2.2.2.2⟩⟩⟩⟩⟩⟩⟩⟩⟩))), (rx HO225.out), (rx HO228.out), (by exact rx (Kd.R_mono HO231.out (fun _ hk => ⟨hk.1.1.1.1, ⟨hk.1.2, ⟨hk.1.1.2, hk.2⟩⟩⟩))), (by exact rx (Kd.R_mono HO_10.out (fun _ hk => ⟨hk.1.1, ⟨hk.2, ⟨hk.1.2.1, hk.1.2.2⟩⟩⟩))), (by exact nx (Kd.N_mono HO_2.out (fun _ hk => ⟨hk.1.1, ⟨hk.1.2.2.2.2.2.1, ⟨hk.2, ⟨hk.1.2.2.2.2.1, ⟨hk.1.2.2.2.1, ⟨hk.1.2.1, ⟨hk.1.2.2.1, ⟨hk.1.2.2.2.2.2.2.1, hk.1.2.2.2.2.2.2.2⟩⟩⟩⟩⟩⟩⟩⟩))), (rx HO_7.out), (by exact rx (Kd.R_mono HO_9.out (fun _ hk => ⟨hk.1.1, ⟨hk.2, ⟨hk.1.2.1, hk.1.2.2⟩⟩⟩))), (bx BK183.out), (bx BK211.out), lk, lb⟩)
        rintro ⟨v224, v227, v230⟩ w67 ⟨hS_, h0_, h1_, h2_, h3_, h4_, h5_, h6_, h7_, h8_, h9_, h10_, h11_, h12_, h13_, h14_⟩
        have n0_ : Aside0 (Kd.V k51 51 w67 w0.heap.size (fun k_ => (P2_ k_ ∨ w.heap.size ≤ k_) ∧ some k_ ≠ (v224 : Value).ownBlock ∧ some k_ ≠ (v227 : Value).ownBlock ∧ some k_ ≠ (v230 : Value).ownBlock ∧ some k_ ≠ (u10 : Value).ownBlock ∧ some k_ ≠ (.slice (some ⟨go23, 0, none⟩) x2_2.length co44 : Value).ownBlock ∧ some k_ ≠ (.slice (some ⟨go38, 0, none⟩) x7_2.length co53 : Value).ownBlock ∧ some k_ ≠ (.slice Ao59 x9_2.length co59 : Value).ownBlock ∧ k_ ≠ gb183 ∧ k_ ≠ gb211) (.slice (some ad210) (rd_L5 x2_2 (rd x8_1 (ji14))).length c194_0) (rd_L5 x2_2 (rd x8_1 (ji14)))) := ⟨h0_⟩
        have n1_ : Aside0 (Kd.V k51 51 w67 w0.heap.size (fun k_ => (P2_ k_ ∨ w.heap.size ≤ k_) ∧ some k_ ≠ (v224 : Value).ownBlock ∧ some k_ ≠ (v227 : Value).ownBlock ∧ some k_ ≠ (v230 : Value).ownBlock ∧ some k_ ≠ (u10 : Value).ownBlock ∧ some k_ ≠ (.slice (some ⟨go23, 0, none⟩) x2_2.length co44 : Value).ownBlock ∧ some k_ ≠ (.slice (some ⟨go38, 0, none⟩) x7_2.length co53 : Value).ownBlock ∧ some k_ ≠ (.slice Ao59 x9_2.length co59 : Value).ownBlock ∧ k_ ≠ gb183 ∧ k_ ≠ gb211) (.slice (some ad210) (rd_L5 x2_2 (rd x8_1 (ji14))).length c194_0) (rd_L5 x2_2 (rd x8_1 (ji14)))) := ⟨h1_⟩
        have n2_ : Aside0 (Kd.V k51 51 w67 w0.heap.size (fun k_ => (P2_ k_ ∨ w.heap.size ≤ k_) ∧ some k_ ≠ (v224 : Value).ownBlock ∧ some k_ ≠ (v227 : Value).ownBlock ∧ some k_ ≠ (v230 : Value).ownBlock ∧ some k_ ≠ (u10 : Value).ownBlock ∧ some k_ ≠ (.slice (some ⟨go23, 0, none⟩) x2_2.length co44 : Value).ownBlock ∧ some k_ ≠ (.slice (some ⟨go38, 0, none⟩) x7_2.length co53 : Value).ownBlock ∧ some k_ ≠ (.slice Ao59 x9_2.length co59 : Value).ownBlock ∧ k_ ≠ gb183 ∧ k_ ≠ gb211) (.slice A212_0 (rd_L5 x2_2 (rd x8_1 (ji14))).length c212_0) (rd_L5 x2_2 (rd x8_1 (ji14)))) := ⟨h2_⟩
        have n3_ : Aside0 (Kd.V k51 51 w67 w0.heap.size (fun k_ => (P2_ k_ ∨ w.heap.size ≤ k_) ∧ some k_ ≠ (v224 : Value).ownBlock ∧ some k_ ≠ (v227 : Value).ownBlock ∧ some k_ ≠ (v230 : Value).ownBlock ∧ some k_ ≠ (u10 : Value).ownBlock ∧ some k_ ≠ (.slice (some ⟨go23, 0, none⟩) x2_2.length co44 : Value).ownBlock ∧ some k_ ≠ (.slice (some ⟨go38, 0, none⟩) x7_2.length co53 : Value).ownBlock ∧ some k_ ≠ (.slice Ao59 x9_2.length co59 : Value).ownBlock ∧ k_ ≠ gb183 ∧ k_ ≠ gb211) (.slice A49 y213.length c49) y213) := ⟨h3_⟩
        have n4_ : Aside0 (Kd.R (Kd.int .i64) 3 w67 w0.heap.size (fun k_ => (P2_ k_ ∨ w.heap.size ≤ k_) ∧ some k_ ≠ (v227 : Value).ownBlock) v224 y223) := ⟨h4_⟩
        have n5_ : Aside0 (Kd.R (Kd.int .i64) 3 w67 w0.heap.size (fun k_ => (P2_ k_ ∨ w.heap.size ≤ k_) ∧ some k_ ≠ (v224 : Value).ownBlock) v227 y226) := ⟨h5_⟩
        have n6_ : Aside0 (Kd.R k51 51 w67 w0.heap.size (fun k_ => (P2_ k_ ∨ w.heap.size ≤ k_) ∧ some k_ ≠ (u10 : Value).ownBlock ∧ some k_ ≠ (.slice Ao59 x9_2.length co59 : Value).ownBlock ∧ k_ ≠ gb211) v230 y229) := ⟨h6_⟩
        have n7_ : Aside0 (Kd.R k51 51 w67 w0.heap.size (fun k_ => (P2_ k_ ∨ w.heap.size ≤ k_) ∧ some k_ ≠ (v230 : Value).ownBlock ∧ some k_ ≠ (.slice Ao59 x9_2.length co59 : Value).ownBlock ∧ k_ ≠ gb211) u10 x10_1) := ⟨h7_⟩
        have n8_ : Aside0 (Kd.N (Kd.slice 51 k51) 26 w67 w0.heap.size (fun k_ => (P2_ k_ ∨ w.heap.size ≤ k_) ∧ some k_ ≠ (v224 : Value).ownBlock ∧ some k_ ≠ (v227 : Value).ownBlock ∧ some k_ ≠ (v230 : Value).ownBlock ∧ some k_ ≠ (u10 : Value).ownBlock ∧ some k_ ≠ (.slice (some ⟨go38, 0, none⟩) x7_2.length co53 : Value).ownBlock ∧ some k_ ≠ (.slice Ao59 x9_2.length co59 : Value).ownBlock ∧ k_ ≠ gb183 ∧ k_ ≠ gb211) (.slice (some ⟨go23, 0, none⟩) x2_2.length co44) y218) := ⟨h8_⟩
        have n9_ : Aside0 (Kd.R Kd.bool 4 w67 w0.heap.size (fun k_ => (P2_ k_ ∨ w.heap.size ≤ k_)) (.slice (some ⟨go38, 0, none⟩) x7_2.length co53) y220) := ⟨h9_⟩
        have n10_ : Aside0 (Kd.R k51 51 w67 w0.heap.size (fun k_ => (P2_ k_ ∨ w.heap.size ≤ k_) ∧ some k_ ≠ (v230 : Value).ownBlock ∧ some k_ ≠ (u10 : Value).ownBlock ∧ k_ ≠ gb211) (.slice Ao59 x9_2.length co59) x9_2) := ⟨h10_⟩
        have n11_ : Aside0 (w67.heap[gb183]? = some (.cells #[.int .i64 a0_0, .slice (some ad221) l0_1.length c0_1] 24 (0, 0))) := ⟨h11_⟩
        have n12_ : Aside0 (w67.heap[gb211]? = some (.cells #[.int .i64 ((rd_T51 (rd_L5 x2_2 (rd x8_1 (ji14))) 0).f0), .bool true] 51 (0, 0))) := ⟨h12_⟩
        have n13_ : Aside0 (Kept w w67 (fun k_ => P2_ k_)) := ⟨h13_⟩
        have n14_ : Aside0 (Below w0.heap.size w0 w67) := ⟨h14_⟩
        clear HO_2
        clear HO_7
        clear HO_8
        clear HO_9
        clear HO_10
        clear HL194_0
        clear HL209_0
        clear HL212_0
        clear HO217
        clear BK183
        clear BK211
        clear HK
        clear HB
        clear h0_ h1_ h2_ h3_ h4_ h5_ h6_ h7_ h8_ h9_ h10_ h11_ h12_ h13_ h14_
        have HL194_0 := n0_
        have HL209_0 := n1_
        have HL212_0 := n2_
        have HO217 := n3_
        have HO225 := n4_
        have HO228 := n5_
        have HO231 := n6_
        have HO_10 := n7_
        have HO_2 := n8_
        have HO_7 := n9_
        have HO_9 := n10_
        have BK183 := n11_
        have BK211 := n12_
        have HK := n13_
        have HB := n14_
        clear n0_ n1_ n2_ n3_ n4_ n5_ n6_ n7_ n8_ n9_ n10_ n11_ n12_ n13_ n14_
        have hHeld : w67.cell? ⟨gb211, 0, none⟩ = some (.int .i64 ((rd_T51 (rd_L5 x2_2 (rd x8_1 (ji14))) 0).f0)) ∧ w67.cell? ⟨gb211, 1, none⟩ = some (.bool true) := hS_
        obtain ⟨Ao69, co69, eo69⟩ := Kd.R_slice HO231.out
        (first | subst eo69 | (injection eo69 with f1_ f2_ f3_; have f4_ := f1_.symm; have f5_ := f3_.symm; clear f1_ f2_ f3_; subst f4_; subst f5_))
        refine norm_ (a' := ?_) ?_ ?_
        rotate_left
        ·
         simp only [putAll, Act.put, List.setIfInBounds_toArray, List.set_cons_zero, List.set_cons_succ]
         rfl
        refine one_ (i := 7) (N := some 79) #[true, true, true, true, true, true, true, true, false, false] rfl rfl (one_of HT_.out (by kernel_rfl)) (by decide) (fun K hK => ?_)
        refine Kd.R_append_rows_step k51 (w0 := w0) w0.heap.size (by rfl) (.tmp 76) (.tmp 78) 26 51 (.agg #[(.int .i64 0), (.bool false)]) 16 rfl Try.underlying26 info51 rfl (by decide) (by omega) (.slice Ao59 x9_2.length co59) x9_2 y229 _ _ _ (fun k_ => (P2_ k_ ∨ w.heap.size ≤ k_) ∧ some k_ ≠ (u10 : Value).ownBlock ∧ some k_ ≠ (.slice Ao69 y229.length co69 : Value).ownBlock ∧ k_ ≠ gb211) (fun _ => False) rfl rfl ?aO ?aR (fun _ _ h => h) (fun _ h => h.elim) ?aF ?aB ?aS ?aL ?_
        (case aR => repeat (first | exact (Kd.R_reads' HO231.out).2.2 | (with_reducible refine Kd.C_alloc ?_ _) | (with_reducible refine Kd.C_drewN ?_ _) | (with_reducible refine Kd.C_drew ?_)))
        (case aB => exact lb)
        (case aF => exact (fun k_ hk => ⟨(.inr (Nat.le_trans (by first | exact HK.out.1 | exact (show Kept w _ (fun k_ => P2_ k_) from lk).1) hk)), Kd.fresh' (Kd.R_lt (rx HO_10.out)) k_ hk, Kd.fresh' (Kd.R_lt (rx HO231.out)) k_ hk, Kd.freshB (g := gb211) (o := .cells #[.int .i64 ((rd_T51 (rd_L5 x2_2 (rd x8_1 (ji14))) 0).f0), .bool true] 51 (0, 0)) (bx BK211.out) k_ hk⟩))
        (case aO => exact (by exact rx (Kd.R_mono HO_9.out (fun _ hk => ⟨hk.1, ⟨hk.2.2.1, ⟨hk.2.1, hk.2.2.2⟩⟩⟩))))
        (case aS => exact (below_size lb))
        (case aL => have := LMc43.out; omega)
        intro v233 w68 ho hb hg hat
        rw [← Ny232.out] at ho
        have n0_ := ak (Kd.N_afterv (ok := (fun k_ => (P2_ k_ ∨ w.heap.size ≤ k_) ∧ some k_ ≠ (.slice (some ⟨go38, 0, none⟩) x7_2.length co53 : Value).ownBlock ∧ some k_ ≠ (u10 : Value).ownBlock ∧ some k_ ≠ (v224 : Value).ownBlock ∧ some k_ ≠ (v227 : Value).ownBlock ∧ some k_ ≠ (.slice Ao69 y229.length co69 : Value).ownBlock ∧ k_ ≠ gb183 ∧ k_ ≠ gb211)) (by exact nx (Kd.N_mono HO_2.out (fun _ hk => ⟨⟨hk.1, ⟨hk.2.2.2.2.2.1, ⟨hk.2.2.2.2.1, ⟨hk.2.1, ⟨hk.2.2.1, ⟨hk.2.2.2.1, ⟨hk.2.2.2.2.2.2.2.1, hk.2.2.2.2.2.2.2.2⟩⟩⟩⟩⟩⟩⟩, hk.2.2.2.2.2.2.1⟩))) hg hat)
        have n1_ := ak (Kd.R_over' (rx HO_7.out) (Kd.R_typed (rx HO_9.out)) (by decide) hg)
        have n2_ := ak (Kd.R_after (ok := (fun k_ => (P2_ k_ ∨ w.heap.size ≤ k_) ∧ some k_ ≠ (.slice Ao69 y229.length co69 : Value).ownBlock ∧ k_ ≠ gb211)) (by exact rx (Kd.R_mono HO_10.out (fun _ hk => ⟨⟨hk.1, ⟨hk.2.1, hk.2.2.2⟩⟩, hk.2.2.1⟩))) hg hat)
        have n3_ := ak (blk_grown (bx BK183.out) hg (Kd.R_ne HO_9.out BK183.out (by decide)))
        have n4_ := ak (Kd.V_afterv (ok := (fun k_ => (P2_ k_ ∨ w.heap.size ≤ k_) ∧ some k_ ≠ (.slice (some ⟨go23, 0, none⟩) x2_2.length co44 : Value).ownBlock ∧ some k_ ≠ (.slice (some ⟨go38, 0, none⟩) x7_2.length co53 : Value).ownBlock ∧ some k_ ≠ (u10 : Value).ownBlock ∧ some k_ ≠ (v224 : Value).ownBlock ∧ some k_ ≠ (v227 : Value).ownBlock ∧ some k_ ≠ (.slice Ao69 y229.length co69 : Value).ownBlock ∧ k_ ≠ gb183 ∧ k_ ≠ gb211)) (by exact vx (Kd.V_mono HL194_0.out (fun _ hk => ⟨⟨hk.1, ⟨hk.2.2.2.2.2.1, ⟨hk.2.2.2.2.2.2.1, ⟨hk.2.2.2.2.1, ⟨hk.2.1, ⟨hk.2.2.1, ⟨hk.2.2.2.1, ⟨hk.2.2.2.2.2.2.2.2.1, hk.2.2.2.2.2.2.2.2.2⟩⟩⟩⟩⟩⟩⟩⟩, hk.2.2.2.2.2.2.2.1⟩))) hg hat)
        have n5_ := ak (Kd.V_afterv (ok := (fun k_ => (P2_ k_ ∨ w.heap.size ≤ k_) ∧ some k_ ≠ (.slice (some ⟨go23, 0, none⟩) x2_2.length co44 : Value).ownBlock ∧ some k_ ≠ (.slice (some ⟨go38, 0, none⟩) x7_2.length co53 : Value).ownBlock ∧ some k_ ≠ (u10 : Value).ownBlock ∧ some k_ ≠ (v224 : Value).ownBlock ∧ some k_ ≠ (v227 : Value).ownBlock ∧ some k_ ≠ (.slice Ao69 y229.length co69 : Value).ownBlock ∧ k_ ≠ gb183 ∧ k_ ≠ gb211)) (by exact vx (Kd.V_mono HL209_0.out (fun _ hk => ⟨⟨hk.1, ⟨hk.2.2.2.2.2.1, ⟨hk.2.2.2.2.2.2.1, ⟨hk.2.2.2.2.1, ⟨hk.2.1, ⟨hk.2.2.1, ⟨hk.2.2.2.1, ⟨hk.2.2.2.2.2.2.2.2.1, hk.2.2.2.2.2.2.2.2.2⟩⟩⟩⟩⟩⟩⟩⟩, hk.2.2.2.2.2.2.2.1⟩))) hg hat)
        have n6_ := ak (blk_grown (bx BK211.out) hg (Kd.R_away HO_9.out (fun _ hk => hk.2.2.2)))
        have n7_ := ak (Kd.V_afterv (ok := (fun k_ => (P2_ k_ ∨ w.heap.size ≤ k_) ∧ some k_ ≠ (.slice (some ⟨go23, 0, none⟩) x2_2.length co44 : Value).ownBlock ∧ some k_ ≠ (.slice (some ⟨go38, 0, none⟩) x7_2.length co53 : Value).ownBlock ∧ some k_ ≠ (u10 : Value).ownBlock ∧ some k_ ≠ (v224 : Value).ownBlock ∧ some k_ ≠ (v227 : Value).ownBlock ∧ some k_ ≠ (.slice Ao69 y229.length co69 : Value).ownBlock ∧ k_ ≠ gb183 ∧ k_ ≠ gb211)) (by exact vx (Kd.V_mono HL212_0.out (fun _ hk => ⟨⟨hk.1, ⟨hk.2.2.2.2.2.1, ⟨hk.2.2.2.2.2.2.1, ⟨hk.2.2.2.2.1, ⟨hk.2.1, ⟨hk.2.2.1, ⟨hk.2.2.2.1, ⟨hk.2.2.2.2.2.2.2.2.1, hk.2.2.2.2.2.2.2.2.2⟩⟩⟩⟩⟩⟩⟩⟩, hk.2.2.2.2.2.2.2.1⟩))) hg hat)
        have n8_ := ak (Kd.V_afterv (ok := (fun k_ => (P2_ k_ ∨ w.heap.size ≤ k_) ∧ some k_ ≠ (.slice (some ⟨go23, 0, none⟩) x2_2.length co44 : Value).ownBlock ∧ some k_ ≠ (.slice (some ⟨go38, 0, none⟩) x7_2.length co53 : Value).ownBlock ∧ some k_ ≠ (u10 : Value).ownBlock ∧ some k_ ≠ (v224 : Value).ownBlock ∧ some k_ ≠ (v227 : Value).ownBlock ∧ some k_ ≠ (.slice Ao69 y229.length co69 : Value).ownBlock ∧ k_ ≠ gb183 ∧ k_ ≠ gb211)) (by exact vx (Kd.V_mono HO217.out (fun _ hk => ⟨⟨hk.1, ⟨hk.2.2.2.2.2.1, ⟨hk.2.2.2.2.2.2.1, ⟨hk.2.2.2.2.1, ⟨hk.2.1, ⟨hk.2.2.1, ⟨hk.2.2.2.1, ⟨hk.2.2.2.2.2.2.2.2.1, hk.2.2.2.2.2.2.2.2.2⟩⟩⟩⟩⟩⟩⟩⟩, hk.2.2.2.2.2.2.2.1⟩))) hg hat)
        have n9_ := ak (Kd.R_over' (rx HO225.out) (Kd.R_typed (rx HO_9.out)) (by decide) hg)
        have n10_ := ak (Kd.R_over' (rx HO228.out) (Kd.R_typed (rx HO_9.out)) (by decide) hg)
        have n11_ := ak (Kd.R_after (ok := (fun k_ => (P2_ k_ ∨ w.heap.size ≤ k_) ∧ some k_ ≠ (u10 : Value).ownBlock ∧ k_ ≠ gb211)) (by exact rx (Kd.R_mono HO231.out (fun _ hk => ⟨⟨hk.1, ⟨hk.2.1, hk.2.2.2⟩⟩, hk.2.2.1⟩))) hg hat)
        have n12_ := ak (hb)
        have n13_ := ak (Kept.of_grown (S := (fun k_ => P2_ k_)) hg lk (fun k_ e_ => (HO_9.out.1 k_ e_).1))
        have n14_ := ak (ho)
        clear HO_2
        clear HO_7
        clear HO_10
        clear BK183
        clear HL194_0
        clear HL209_0
        clear BK211
        clear HL212_0
        clear HO217
        clear HO225
        clear HO228
        clear HO231
        clear HB
        clear HK
        clear HO_9
        have HO_2 := n0_
        have HO_7 := n1_
        have HO_10 := n2_
        have BK183 := n3_
        have HL194_0 := n4_
        have HL209_0 := n5_
        have BK211 := n6_
        have HL212_0 := n7_
        have HO217 := n8_
        have HO225 := n9_
        have HO228 := n10_
        have HO231 := n11_
        have HB := n12_
        have HK := n13_
        have HO234 := n14_
        clear n0_ n1_ n2_ n3_ n4_ n5_ n6_ n7_ n8_ n9_ n10_ n11_ n12_ n13_ n14_
        clear ho hb hg hat
        refine hK.out _ _ ⟨(blk_cell BK211.out 0).trans rfl, (blk_cell BK211.out 1).trans rfl⟩ (fun hHeld => ?_)
        clear hK K
        refine norm_ (a' := ?_) ?_ ?_
        rotate_left
        ·
         show Act.put _ (some 79) _ = _
         simp only [Act.put, List.setIfInBounds_toArray, List.set_cons_zero, List.set_cons_succ, i64_w, i32_w]
         rfl
        refine pure_ (i := 8) (N := some 8) (v := ?_) (a' := ?_) #[true, true, true, true, true, true, true, true, true, false] rfl rfl (any_of HT_.out (by kernel_rfl)) (fun _ _ _ h => h) (Or.inl ⟨by rfl, ?_⟩) ?_ ?_; rotate_left; intro w'; go_simp; with_reducible rfl; rotate_left; simp only [Act.put, List.setIfInBounds_toArray, List.set_cons_zero, List.set_cons_succ, i64_w, i32_w]; rfl
        refine pure_ (i := 9) (N := some 9) (v := ?_) (a' := ?_) #[true, true, true, true, true, true, true, true, true, true] rfl rfl (any_of HT_.out (by kernel_rfl)) (fun _ _ _ h => h) (Or.inl ⟨by rfl, ?_⟩) ?_ ?_; rotate_left; intro w'; go_simp; with_reducible rfl; rotate_left; simp only [Act.put, List.setIfInBounds_toArray, List.set_cons_zero, List.set_cons_succ, i64_w, i32_w]; rfl
        refine done_ (done_of HT_.out (by kernel_rfl)) ?_
        try go_wp2_with (first | go_step3 | (with_reducible refine Eq.mpr Exit.noGoto_normal ?_) | (with_reducible refine Eq.mpr Exit.noGoto_ret ?_) | (with_reducible refine Eq.mpr (Exit.noGoto_exit _) ?_))
        go_roundg k2
        case measure => have := HK1.out; have := HK2.out; omega
        case rel => exact ⟨(y218), (y220), (y226), (y232), (x10_1), H', ⟨by have := HK1.out; have := HK2.out; omega⟩, ⟨by exact nx (Kd.N_mono HO_2.out (fun _ hk => ⟨hk.1.1, ⟨hk.1.2.1, ⟨hk.1.2.2.2.2.1, ⟨hk.2, ⟨hk.1.2.2.1, hk.1.2.2.2.2.2.2.1⟩⟩⟩⟩⟩))⟩, ⟨rx HO_7.out⟩, ⟨by exact rx (Kd.R_mono HO228.out (fun _ hk => hk.1))⟩, ⟨by exact rx (Kd.R_mono HO234.out (fun _ hk => ⟨hk.1, hk.2.1⟩))⟩, ⟨by exact rx (Kd.R_mono HO_10.out (fun _ hk => ⟨hk.1.1, hk.2⟩))⟩, ⟨bx BK183.out⟩, ⟨lk⟩, ⟨lb⟩⟩
       ·
        replace c41 := Bool.eq_false_iff.mpr c41
        subst c41
        have H1 : ((some (([(rd_T45 l0_1 ((rd_T51 (rd_L5 x2_2 (rd x8_1 (ji14))) 0).f0)).f1] : List Int) : List Int)).bind fun y235 => (if x8_2.length + y235.length < 17592186044416 then ((some (([(⟨(rd_T51 (rd_L5 x2_2 (rd x8_1 (ji14))) 0).f0, false⟩ : S51)] : List (S51)) : List (S51))).bind fun y241 => (if x9_2.length + y241.length < 8796093022208 then (euler_circuit.l0 k2 y218 y220 (x8_2 ++ y235) (x9_2 ++ y241) x10_1 a0_0 l0_1) else (none))) else (none))) = some (r1, r2) := by rw [if_neg (show ¬ (false = true) by decide)] at H; exact H
        clear H
        have H := H1
        clear H1
        obtain ⟨y235, hy235⟩ : ∃ y_ : List Int, y_ = (([(rd_T45 l0_1 ((rd_T51 (rd_L5 x2_2 (rd x8_1 (ji14))) 0).f0)).f1] : List Int)) := ⟨_, rfl⟩
        replace H : (if x8_2.length + y235.length < 17592186044416 then ((some (([(⟨(rd_T51 (rd_L5 x2_2 (rd x8_1 (ji14))) 0).f0, false⟩ : S51)] : List (S51)) : List (S51))).bind fun y241 => (if x9_2.length + y241.length < 8796093022208 then (euler_circuit.l0 k2 y218 y220 (x8_2 ++ y235) (x9_2 ++ y241) x10_1 a0_0 l0_1) else (none))) else (none)) = some (r1, r2) := by first | (rw [hy235]; exact H) | exact H
        have Ny235 := ak hy235
        clear hy235
        by_cases c70 : x8_2.length + y235.length < 17592186044416
        rotate_left
        ·
         rw [if_neg c70] at H
         exact absurd H (by simp)
        rw [if_pos c70] at H
        have LMc70 := ak c70
        clear c70
        obtain ⟨y238, hy238⟩ : ∃ y_ : List Int, y_ = (x8_2 ++ y235) := ⟨_, rfl⟩
        replace H : ((some (([(⟨(rd_T51 (rd_L5 x2_2 (rd x8_1 (ji14))) 0).f0, false⟩ : S51)] : List (S51)) : List (S51))).bind fun y241 => (if x9_2.length + y241.length < 8796093022208 then (euler_circuit.l0 k2 y218 y220 y238 (x9_2 ++ y241) x10_1 a0_0 l0_1) else (none))) = some (r1, r2) := by first | (rw [hy238]; exact H) | exact H
        have Ny238 := ak hy238
        clear hy238
        obtain ⟨y241, hy241⟩ : ∃ y_ : List (S51), y_ = (([(⟨(rd_T51 (rd_L5 x2_2 (rd x8_1 (ji14))) 0).f0, false⟩ : S51)] : List (S51))) := ⟨_, rfl⟩
        replace H : (if x9_2.length + y241.length < 8796093022208 then (euler_circuit.l0 k2 y218 y220 y238 (x9_2 ++ y241) x10_1 a0_0 l0_1) else (none)) = some (r1, r2) := by first | (rw [hy241]; exact H) | exact H
        have Ny241 := ak hy241
        clear hy241
        by_cases c71 : x9_2.length + y241.length < 8796093022208
        rotate_left
        ·
         rw [if_neg c71] at H
         exact absurd H (by simp)
        rw [if_pos c71] at H
        have LMc71 := ak c71
        clear c71
        obtain ⟨y244, hy244⟩ : ∃ y_ : List (S51), y_ = (x9_2 ++ y241) := ⟨_, rfl⟩
        replace H : (euler_circuit.l0 k2 y218 y220 y238 y244 x10_1 a0_0 l0_1) = some (r1, r2) := by first | (rw [hy244]; exact H) | exact H
        have Ny244 := ak hy244
        clear hy244
        have H' := ak H
        clear H
        obtain ⟨Ao72, co72, eo72⟩ := Kd.N_slice HO_2.out
        subst eo72
        have p194 : 0 ≤ ((rd x8_1 (ji14)) : Int) := oda
        have q194 : (rd x8_1 (ji14)) < (x2_2.length : Int) := oda
        obtain ⟨ad194, A194_0, c194_0, e194, hx194_0, hl194_0, hi194_0⟩ := at_L5 (Kd.N_reads' HO_2.out).2.2 (rd x8_1 (ji14)) p194 q194
        cases e194
        obtain ⟨ce194, hce194, hMe194, hcc194⟩ := Kd.N_get HO_2.out [] (rd x8_1 (ji14)) p194 (by first | exact q194 | exact oda | (have e_ := (Kd.N_reads' HO_2.out).1; omega))
        obtain ⟨ua194_0, uc194_0, rfl, ul194_0, ge194_0⟩ := Kd.FK_slice_open hMe194
        have hv194_0 := hcc194 0 _ rfl
        rw [Nat.add_zero, show ((Kd.slice 51 k51)).sz = 1 from rfl, Nat.mul_one] at hv194_0
        replace hv194_0 := Option.some.inj (hv194_0.symm.trans hx194_0)
        injection hv194_0 with hva_ hvn_ hvc_
        rw [hva_] at ge194_0
        rw [hvc_] at ul194_0
        have HL194_0 := ak (show Kd.V k51 51 _ w0.heap.size _ _ (rd_L5 x2_2 (rd x8_1 (ji14))) from Kd.V_mk ul194_0 ge194_0)
        clear hva_ hvn_ hvc_ ge194_0 ul194_0
        clear hcc194 hce194
        have HR194_0 := ak hi194_0
        have HC194_0 := ak hl194_0
        clear hi194_0 hl194_0
        replace p194 := eq_true p194
        replace q194 := eq_true q194
        have p209 : 0 ≤ ((rd x8_1 (ji14)) : Int) := oda
        have q209 : (rd x8_1 (ji14)) < (x2_2.length : Int) := oda
        obtain ⟨ad209, A209_0, c209_0, e209, hx209_0, hl209_0, hi209_0⟩ := at_L5 (Kd.N_reads' HO_2.out).2.2 (rd x8_1 (ji14)) p209 q209
        obtain rfl : ad194 = ad209 := (by injection e209)
        obtain ⟨ce209, hce209, hMe209, hcc209⟩ := Kd.N_get HO_2.out [] (rd x8_1 (ji14)) p209 (by first | exact q209 | exact oda | (have e_ := (Kd.N_reads' HO_2.out).1; omega))
        obtain ⟨ua209_0, uc209_0, rfl, ul209_0, ge209_0⟩ := Kd.FK_slice_open hMe209
        have hv209_0 := hcc209 0 _ rfl
        rw [Nat.add_zero, show ((Kd.slice 51 k51)).sz = 1 from rfl, Nat.mul_one] at hv209_0
        replace hv209_0 := Option.some.inj (hv209_0.symm.trans hx209_0)
        injection hv209_0 with hva_ hvn_ hvc_
        rw [hva_] at ge209_0
        rw [hvc_] at ul209_0
        have HL209_0 := ak (show Kd.V k51 51 _ w0.heap.size _ _ (rd_L5 x2_2 (rd x8_1 (ji14))) from Kd.V_mk ul209_0 ge209_0)
        clear hva_ hvn_ hvc_ ge209_0 ul209_0
        clear hcc209 hce209
        have HR209_0 := ak hi209_0
        have HC209_0 := ak hl209_0
        clear hi209_0 hl209_0
        replace p209 := eq_true p209
        replace q209 := eq_true q209
        have ea_ := Option.some.inj (hx194_0.symm.trans hx209_0)
        injection ea_ with ea_ en_ ec_
        subst ea_
        subst ec_
        clear en_
        have p210 : 0 ≤ (0 : Int) := (by omega)
        have q210 : 0 < ((rd_L5 x2_2 (rd x8_1 (ji14))).length : Int) := oda
        obtain ⟨ad210, e210, hx210_0, hx210_1⟩ := at_T51 (by repeat (first | (with_reducible exact HR209_0.out) | (with_reducible refine Kd.C_alloc ?_ _) | (with_reducible refine Kd.C_drewN ?_ _) | (with_reducible refine Kd.C_drew ?_) | exact HR209_0.out)) 0 p210 q210
        (try rw [← Nbq26.out] at hx210_1)
        (try rw [← Nbq40.out] at hx210_1)
        cases e210
        have qi210 : (0 < (rd_L5 x2_2 (rd x8_1 (ji14))).length) = True := eq_true (by omega)
        (try rw [show ((0 : Int)).toNat = 0 from rfl] at hx210_0)
        (try rw [show 0 * 2 = 0 from rfl] at hx210_0)
        (try rw [Addr.add_zero'] at hx210_0)
        (try rw [show ((0 : Int)).toNat = 0 from rfl] at hx210_1)
        (try rw [show 0 * 2 = 0 from rfl] at hx210_1)
        (try rw [Addr.add_zero'] at hx210_1)
        replace p210 := eq_true p210
        replace q210 := eq_true q210
        try go_wp2_with (first | go_step3 | (with_reducible refine Eq.mpr Exit.noGoto_normal ?_) | (with_reducible refine Eq.mpr Exit.noGoto_ret ?_) | (with_reducible refine Eq.mpr (Exit.noGoto_exit _) ?_) | ((with_reducible refine gate_dst (N := 12) rfl ?_); refine box_event ?hg (N := 12) ?hd (cs := #[.int .i64 0, .bool false]) (t := 51) ?hr ?_; (case hd => rfl); (case hg => rfl); (case hr => first | (go_simp; done) | (go_simp; rfl)); intro gb211 hg w73 hbox hb; have n0_ := ak (Kd.N_below (Kd.N_elderB (nx HO_2.out) gb211 (Nat.le_of_eq hg.symm)) hb); have n1_ := ak (Kd.R_below (rx HO_7.out) hb); have n2_ := ak (Kd.R_below (rx HO_8.out) hb); have n3_ := ak (Kd.R_below (Kd.R_elderB (rx HO_9.out) gb211 (Nat.le_of_eq hg.symm)) hb); have n4_ := ak (Kd.R_below (Kd.R_elderB (rx HO_10.out) gb211 (Nat.le_of_eq hg.symm)) hb); have n5_ := ak (Kd.V_below (Kd.V_elderB (vx HL194_0.out) gb211 (Nat.le_of_eq hg.symm)) hb); have n6_ := ak (Kd.V_below (Kd.V_elderB (vx HL209_0.out) gb211 (Nat.le_of_eq hg.symm)) hb); have n7_ := ak (blk_below (bx BK183.out) hb); have n8_ := ak (Kd.C_below (by repeat (first | (with_reducible exact HR194_0.out) | (with_reducible refine Kd.C_alloc ?_ _) | (with_reducible refine Kd.C_drewN ?_ _) | (with_reducible refine Kd.C_drew ?_) | exact HR194_0.out)) hb); have n9_ := ak (Kd.C_below (by repeat (first | (with_reducible exact HR209_0.out) | (with_reducible refine Kd.C_alloc ?_ _) | (with_reducible refine Kd.C_drewN ?_ _) | (with_reducible refine Kd.C_drew ?_) | exact HR209_0.out)) hb); have n10_ := ak (Kept.below (S := (fun k_ => P2_ k_)) lk hb); have n11_ := ak (below_step lb hb); have n12_ := ak (hbox); have n13_ := ak ((by rw [hg]; exact (by first | exact HK.out.1 | exact (show Kept w _ (fun k_ => P2_ k_) from lk).1) : w.heap.size ≤ gb211)); have n14_ := ak ((by rw [hg]; exact (below_size lb) : w0.heap.size ≤ gb211)); have n15_ := ak ((by rw [hg]; exact Nat.ne_of_lt (blk_lt (g := gb183) (o := .cells #[.int .i64 a0_0, .slice A0_1 l0_1.length c0_1] 24 (0, 0)) (bx BK183.out)) : gb183 ≠ gb211)); have n16_ := ak ((by rw [hg]; exact Nat.ne_of_gt (blk_lt (g := gb183) (o := .cells #[.int .i64 a0_0, .slice A0_1 l0_1.length c0_1] 24 (0, 0)) (bx BK183.out)) : gb211 ≠ gb183)); clear HO_2; clear HO_7; clear HO_8; clear HO_9; clear HO_10; clear HL194_0; clear HL209_0; clear BK183; clear HR194_0; clear HR209_0; clear HK; clear HB; have HO_2 := n0_; have HO_7 := n1_; have HO_8 := n2_; have HO_9 := n3_; have HO_10 := n4_; have HL194_0 := n5_; have HL209_0 := n6_; have BK183 := n7_; have HR194_0 := n8_; have HR209_0 := n9_; have HK := n10_; have HB := n11_; have BK211 := n12_; have GW211 := n13_; have GE211 := n14_; have NB183_211 := n15_; have NB211_183 := n16_; clear n0_ n1_ n2_ n3_ n4_ n5_ n6_ n7_ n8_ n9_ n10_ n11_ n12_ n13_ n14_ n15_ n16_; clear hb hbox hg; have hnb74 := NB211_183.out; have hnc74 := NB183_211.out; have hcz75_0 : w73.cell? ⟨gb211, 0, none⟩ = some (.int .i64 0) := (blk_cell BK211.out 0).trans rfl; have hcz75_1 : w73.cell? ⟨gb211, 1, none⟩ = some (.bool false) := (blk_cell BK211.out 1).trans rfl; have hfz75_0 := blk_frozen BK211.out 0; have hfz75_1 := blk_frozen BK211.out 1) | ((with_reducible refine gate_store (t := 51) (p := 12) rfl ?_); refine store_event (t := 51) (p := 12) (v := ?vo_w76) (w1 := ((w73.setCell ⟨gb211, 0, none⟩ (.int .i64 ((rd_T51 (rd_L5 x2_2 (rd x8_1 (ji14))) 0).f0))).setCell ⟨gb211, 1, none⟩ (.bool false))) ?hg ?ho ?hn ?hr ?_; (case ho => rfl); (case hg => rfl); (case hn => rfl); (case hr => first | (go_simp; done) | (go_simp; rfl)); intro w76 hw; have n0_ : Aside0 (Kd.N (Kd.slice 51 k51) 26 w76 w0.heap.size (fun k_ => (P2_ k_ ∨ w.heap.size ≤ k_) ∧ some k_ ≠ (v185 : Value).ownBlock ∧ some k_ ≠ (u8 : Value).ownBlock ∧ some k_ ≠ (u9 : Value).ownBlock ∧ some k_ ≠ (u10 : Value).ownBlock ∧ k_ ≠ gb183 ∧ k_ ≠ gb211) (.slice (some ad194) x2_2.length co72) x2_2) := ⟨(by rw [hw]; exact (by exact nx (Kd.N_mono (Kd.N_far (p := ⟨gb211, 1, none⟩) (Kd.N_far (p := ⟨gb211, 0, none⟩) (Kd.N_mono HO_2.out (fun k_ hk => (⟨hk, hk.2⟩ : _ ∧ k_ ≠ gb211))) (fun _ hk => hk.2) (.int .i64 ((rd_T51 (rd_L5 x2_2 (rd x8_1 (ji14))) 0).f0))) (fun _ hk => hk.2) (.bool false)) (fun _ hk => ⟨hk.1.1.1, ⟨hk.1.1.2.1, ⟨hk.1.1.2.2.1, ⟨hk.1.1.2.2.2.1, ⟨hk.1.1.2.2.2.2.1, ⟨hk.1.1.2.2.2.2.2, hk.1.2⟩⟩⟩⟩⟩⟩))))⟩; have n1_ : Aside0 (Kd.R Kd.bool 4 w76 w0.heap.size (fun k_ => (P2_ k_ ∨ w.heap.size ≤ k_)) v185 x7_2) := ⟨(by rw [hw]; exact (by exact rx (Kd.R_mono (Kd.R_far (p := ⟨gb211, 1, none⟩) (Kd.R_far (p := ⟨gb211, 0, none⟩) (Kd.R_types HO_7.out BK211.out (by decide)) (fun _ hk => hk.2) (.int .i64 ((rd_T51 (rd_L5 x2_2 (rd x8_1 (ji14))) 0).f0))) (fun _ hk => hk.2) (.bool false)) (fun _ hk => hk.1))))⟩; have n2_ : Aside0 (Kd.R (Kd.int .i64) 3 w76 w0.heap.size (fun k_ => (P2_ k_ ∨ w.heap.size ≤ k_)) u8 x8_2) := ⟨(by rw [hw]; exact (by exact rx (Kd.R_mono (Kd.R_far (p := ⟨gb211, 1, none⟩) (Kd.R_far (p := ⟨gb211, 0, none⟩) (Kd.R_types HO_8.out BK211.out (by decide)) (fun _ hk => hk.2) (.int .i64 ((rd_T51 (rd_L5 x2_2 (rd x8_1 (ji14))) 0).f0))) (fun _ hk => hk.2) (.bool false)) (fun _ hk => hk.1))))⟩; have n3_ : Aside0 (Kd.R k51 51 w76 w0.heap.size (fun k_ => (P2_ k_ ∨ w.heap.size ≤ k_) ∧ some k_ ≠ (u10 : Value).ownBlock ∧ k_ ≠ gb211) u9 x9_2) := ⟨(by rw [hw]; exact (by exact rx (Kd.R_mono (Kd.R_far (p := ⟨gb211, 1, none⟩) (Kd.R_far (p := ⟨gb211, 0, none⟩) (Kd.R_mono HO_9.out (fun k_ hk => (⟨hk, hk.2⟩ : _ ∧ k_ ≠ gb211))) (fun _ hk => hk.2) (.int .i64 ((rd_T51 (rd_L5 x2_2 (rd x8_1 (ji14))) 0).f0))) (fun _ hk => hk.2) (.bool false)) (fun _ hk => ⟨hk.1.1.1, ⟨hk.1.1.2, hk.1.2⟩⟩))))⟩; have n4_ : Aside0 (Kd.R k51 51 w76 w0.heap.size (fun k_ => (P2_ k_ ∨ w.heap.size ≤ k_) ∧ some k_ ≠ (u9 : Value).ownBlock ∧ k_ ≠ gb211) u10 x10_1) := ⟨(by rw [hw]; exact (by exact rx (Kd.R_mono (Kd.R_far (p := ⟨gb211, 1, none⟩) (Kd.R_far (p := ⟨gb211, 0, none⟩) (Kd.R_mono HO_10.out (fun k_ hk => (⟨hk, hk.2⟩ : _ ∧ k_ ≠ gb211))) (fun _ hk => hk.2) (.int .i64 ((rd_T51 (rd_L5 x2_2 (rd x8_1 (ji14))) 0).f0))) (fun _ hk => hk.2) (.bool false)) (fun _ hk => ⟨hk.1.1.1, ⟨hk.1.1.2, hk.1.2⟩⟩))))⟩; have n5_ : Aside0 (Kd.V k51 51 w76 w0.heap.size (fun k_ => (P2_ k_ ∨ w.heap.size ≤ k_) ∧ some k_ ≠ (.slice (some ad194) x2_2.length co72 : Value).ownBlock ∧ some k_ ≠ (v185 : Value).ownBlock ∧ some k_ ≠ (u8 : Value).ownBlock ∧ some k_ ≠ (u9 : Value).ownBlock ∧ some k_ ≠ (u10 : Value).ownBlock ∧ k_ ≠ gb183 ∧ k_ ≠ gb211) (.slice (some ad210) (rd_L5 x2_2 (rd x8_1 (ji14))).length c194_0) (rd_L5 x2_2 (rd x8_1 (ji14)))) := ⟨(by rw [hw]; exact (by exact vx (Kd.V_mono (Kd.V_far (p := ⟨gb211, 1, none⟩) (Kd.V_far (p := ⟨gb211, 0, none⟩) (Kd.V_mono HL194_0.out (fun k_ hk => (⟨hk, hk.2⟩ : _ ∧ k_ ≠ gb211))) (fun _ hk => hk.2) (.int .i64 ((rd_T51 (rd_L5 x2_2 (rd x8_1 (ji14))) 0).f0))) (fun _ hk => hk.2) (.bool false)) (fun _ hk => ⟨hk.1.1.1.1, ⟨hk.1.1.2, ⟨hk.1.1.1.2.1, ⟨hk.1.1.1.2.2.1, ⟨hk.1.1.1.2.2.2.1, ⟨hk.1.1.1.2.2.2.2.1, ⟨hk.1.1.1.2.2.2.2.2, hk.1.2⟩⟩⟩⟩⟩⟩⟩))))⟩; have n6_ : Aside0 (Kd.V k51 51 w76 w0.heap.size (fun k_ => (P2_ k_ ∨ w.heap.size ≤ k_) ∧ some k_ ≠ (.slice (some ad194) x2_2.length co72 : Value).ownBlock ∧ some k_ ≠ (v185 : Value).ownBlock ∧ some k_ ≠ (u8 : Value).ownBlock ∧ some k_ ≠ (u9 : Value).ownBlock ∧ some k_ ≠ (u10 : Value).ownBlock ∧ k_ ≠ gb183 ∧ k_ ≠ gb211) (.slice (some ad210) (rd_L5 x2_2 (rd x8_1 (ji14))).length c194_0) (rd_L5 x2_2 (rd x8_1 (ji14)))) := ⟨(by rw [hw]; exact (by exact vx (Kd.V_mono (Kd.V_far (p := ⟨gb211, 1, none⟩) (Kd.V_far (p := ⟨gb211, 0, none⟩) (Kd.V_mono HL209_0.out (fun k_ hk => (⟨hk, hk.2⟩ : _ ∧ k_ ≠ gb211))) (fun _ hk => hk.2) (.int .i64 ((rd_T51 (rd_L5 x2_2 (rd x8_1 (ji14))) 0).f0))) (fun _ hk => hk.2) (.bool false)) (fun _ hk => ⟨hk.1.1.1.1, ⟨hk.1.1.2, ⟨hk.1.1.1.2.1, ⟨hk.1.1.1.2.2.1, ⟨hk.1.1.1.2.2.2.1, ⟨hk.1.1.1.2.2.2.2.1, ⟨hk.1.1.1.2.2.2.2.2, hk.1.2⟩⟩⟩⟩⟩⟩⟩))))⟩; have n7_ : Aside0 (w76.heap[gb183]? = some (.cells #[.int .i64 a0_0, .slice A0_1 l0_1.length c0_1] 24 (0, 0))) := ⟨(by rw [hw]; exact (by (with_reducible repeat (first | refine blk_drewN ?_ _ | refine blk_drew ?_ | refine blk_alloc ?_ _)); refine blk_far ?_ NB183_211.out _; (with_reducible repeat (first | refine blk_drewN ?_ _ | refine blk_drew ?_ | refine blk_alloc ?_ _)); refine blk_far ?_ NB183_211.out _; exact bx BK183.out))⟩; have n8_ : Aside0 (w76.heap[gb211]? = some (.cells #[.int .i64 ((rd_T51 (rd_L5 x2_2 (rd x8_1 (ji14))) 0).f0), .bool false] 51 (0, 0))) := ⟨(by rw [hw]; exact (by (with_reducible repeat (first | refine blk_drewN ?_ _ | refine blk_drew ?_ | refine blk_alloc ?_ _)); refine blk_put (cs := #[.int .i64 ((rd_T51 (rd_L5 x2_2 (rd x8_1 (ji14))) 0).f0), .bool false]) ?_ 1 _ rfl; (with_reducible repeat (first | refine blk_drewN ?_ _ | refine blk_drew ?_ | refine blk_alloc ?_ _)); refine blk_put (cs := #[.int .i64 0, .bool false]) ?_ 0 _ rfl; exact bx BK211.out))⟩; have n9_ : Aside0 (Kept w w76 (fun k_ => P2_ k_)) := ⟨(by rw [hw]; exact lk)⟩; have n10_ : Aside0 (Below w0.heap.size w0 w76) := ⟨(by rw [hw]; exact lb)⟩; clear hw; clear HO_2; clear HO_7; clear HO_8; clear HO_9; clear HO_10; clear HL194_0; clear HL209_0; clear BK183; clear BK211; clear HK; clear HB; have HO_2 := n0_; have HO_7 := n1_; have HO_8 := n2_; have HO_9 := n3_; have HO_10 := n4_; have HL194_0 := n5_; have HL209_0 := n6_; have BK183 := n7_; have BK211 := n8_; have HK := n9_; have HB := n10_; clear n0_ n1_ n2_ n3_ n4_ n5_ n6_ n7_ n8_ n9_ n10_; have p212 : 0 ≤ ((rd x8_1 (ji14)) : Int) := oda; have q212 : (rd x8_1 (ji14)) < (x2_2.length : Int) := oda; obtain ⟨ad212, A212_0, c212_0, e212, hx212_0, hl212_0, hi212_0⟩ := at_L5 (Kd.N_reads' HO_2.out).2.2 (rd x8_1 (ji14)) p212 q212; obtain rfl : ad194 = ad212 := (by injection e212); obtain ⟨ce212, hce212, hMe212, hcc212⟩ := Kd.N_get HO_2.out [] (rd x8_1 (ji14)) p212 (by first | exact q212 | exact oda | (have e_ := (Kd.N_reads' HO_2.out).1; omega)); obtain ⟨ua212_0, uc212_0, rfl, ul212_0, ge212_0⟩ := Kd.FK_slice_open hMe212; have hv212_0 := hcc212 0 _ rfl; rw [Nat.add_zero, show ((Kd.slice 51 k51)).sz = 1 from rfl, Nat.mul_one] at hv212_0; replace hv212_0 := Option.some.inj (hv212_0.symm.trans hx212_0); injection hv212_0 with hva_ hvn_ hvc_; rw [hva_] at ge212_0; rw [hvc_] at ul212_0; have HL212_0 := ak (show Kd.V k51 51 _ w0.heap.size _ _ (rd_L5 x2_2 (rd x8_1 (ji14))) from Kd.V_mk ul212_0 ge212_0); clear hva_ hvn_ hvc_ ge212_0 ul212_0; clear hcc212 hce212; have HR212_0 := ak hi212_0; have HC212_0 := ak hl212_0; clear hi212_0 hl212_0; replace p212 := eq_true p212; replace q212 := eq_true q212; have q77 : (1 : Int) ≤ (((rd_L5 x2_2 (rd x8_1 (ji14))).length : Int) : Int) := oda; obtain ⟨i077, hi077, _, hsz77, _⟩ := info_parts info51; have hroom77 : (rd_L5 x2_2 (rd x8_1 (ji14))).length ≤ c212_0 := HC212_0.out; have hC77 : Kd.F k51 _ _ A212_0 (rd_L5 x2_2 (rd x8_1 (ji14))).length (rd_L5 x2_2 (rd x8_1 (ji14))) := (Kd.V_at (base := w0.heap.size) HL212_0.out).2.2; have hcut77 := cut_from (P := Try.prog) 26 51 .i64 Try.underlying26 hi077 2 hsz77 A212_0 (rd_L5 x2_2 (rd x8_1 (ji14))).length c212_0 1 (by omega) q77; have hr77 := Kd.F_cut (m := (1 : Int).toNat) (c := c212_0) hC77 (by omega) hroom77; obtain ⟨A77, hA77⟩ : ∃ A1, A1 = (if c212_0 = (1 : Int).toNat then A212_0 else (A212_0 : Option Addr).map (·.add ((1 : Int).toNat * 2))) := ⟨_, rfl⟩; obtain ⟨c77, hc77⟩ : ∃ c1, c1 = c212_0 - (1 : Int).toNat := ⟨_, rfl⟩; have hy77 : y213.length = (rd_L5 x2_2 (rd x8_1 (ji14))).length - (1 : Int).toNat := (by rw [Ny213.out, List.length_drop] <;> omega); rw [show (rd_L5 x2_2 (rd x8_1 (ji14))).drop (1 : Int).toNat = y213 from Ny213.out.symm] at hr77; replace hr77 : Kd.F k51 _ _ A77 y213.length y213 := (by rw [hA77]; exact hr77); rw [← hy77, ← hA77, ← hc77] at hcut77; have HO217 := ak (show Kd.V k51 51 _ w0.heap.size _ (.slice A77 y213.length c77) y213 from Kd.V_mk (by rw [hy77, hc77]; exact Nat.sub_le_sub_right hroom77 _) hr77); have HC217 := ak (show y213.length ≤ c77 from by rw [hy77, hc77]; exact Nat.sub_le_sub_right hroom77 _); clear hr77 hC77 hroom77 hi077 hsz77 hc77; have KY77 := ak hy77; have KA77 := ak hA77; clear hy77 hA77; replace q77 := eq_true q77; have p23 : 0 ≤ ((rd x8_1 (ji14)) : Int) := oda; have q23 : ((rd x8_1 (ji14)) : Int) < ((x2_2.length : Int) : Int) := oda; obtain ⟨go23, co23, eo23, gb23, gl23, cl23, HG23⟩ := Kd.N_form HO_2.out (by omega); (first | cases eo23 | (injection eo23 with ea_ en_ ec_; (first | subst ea_ | (injection ea_ with ea_; subst ea_)); subst ec_; clear en_)); have GB23 := ak gb23; have GG23 := ak HG23; clear gb23 gl23 HG23; have HMgo23 := ak (show (P2_ go23 ∨ w.heap.size ≤ go23) from (HO_2.out.1 _ rfl).1); (first | simp only [add_plain] at hx194_0 | skip); (first | simp only [add_plain] at hx209_0 | skip); (first | simp only [add_plain] at hx212_0 | skip); obtain ⟨ce23, hcl23, hM23, hcc23, hfr23⟩ := Kd.N_elem HO_2.out [] ((rd x8_1 (ji14)) : Int) p23 q23; obtain ⟨ua23_0, uc23_0, rfl, ul23_0, ge23_0⟩ := Kd.FK_slice_open hM23; have hx23_0 := hcc23 0 _ rfl; have hf23_0 := hfr23 0; (try simp only [show ((Kd.slice 51 k51)).sz = 1 from rfl, Nat.mul_one, Nat.add_zero] at hx23_0); (try simp only [show ((Kd.slice 51 k51)).sz = 1 from rfl, Nat.mul_one, Nat.add_zero] at hf23_0); clear hcl23 hcc23 hfr23 hM23; replace p23 := eq_true p23; replace q23 := eq_true q23; have HX78 := ak (show Kd.N (Kd.slice 51 k51) 26 w76 w0.heap.size (fun k_ => (P2_ k_ ∨ w.heap.size ≤ k_) ∧ some k_ ≠ (v185 : Value).ownBlock ∧ some k_ ≠ (u8 : Value).ownBlock ∧ some k_ ≠ (u9 : Value).ownBlock ∧ some k_ ≠ (u10 : Value).ownBlock ∧ k_ ≠ gb183 ∧ k_ ≠ gb211) (.slice (some ⟨go23, 0, none⟩) x2_2.length co72) x2_2 from (nx HO_2.out)); obtain ⟨ce78, hcl78, hM78, hcc78, hfr78⟩ := Kd.N_elem HX78.out [] ((rd x8_1 (ji14)) : Int) (oda) (by have h_ : ((rd x8_1 (ji14)) : Int) < ((x2_2.length : Int) : Int) := oda; first | exact h_ | (have e_ := (Kd.N_reads' HO_2.out).1; omega) | simpa using h_); obtain ⟨ua78_0, uc78_0, rfl, ul78_0, ge78_0⟩ := Kd.FK_slice_open hM78; have HP78 := Kd.N_seg HX78.out ((rd x8_1 (ji14)) : Int) (oda) (by have h_ : ((rd x8_1 (ji14)) : Int) < ((x2_2.length : Int) : Int) := oda; first | exact h_ | (have e_ := (Kd.N_reads' HO_2.out).1; omega) | simpa using h_) (seg := [.slice A77 y213.length c77]) (j := 0) hcl78 hcc78 (show 1 ≤ 1 from by decide) (x' := y213) (Kd.FK_slice_mk (Kd.V_reads' (Kd.V_mono (ok' := (fun k_ => ((fun k_ => (P2_ k_ ∨ w.heap.size ≤ k_) ∧ some k_ ≠ (v185 : Value).ownBlock ∧ some k_ ≠ (u8 : Value).ownBlock ∧ some k_ ≠ (u9 : Value).ownBlock ∧ some k_ ≠ (u10 : Value).ownBlock ∧ k_ ≠ gb183 ∧ k_ ≠ gb211)) k_ ∧ k_ ≠ go23)) (HO217.out) (fun k_ hk => ⟨⟨hk.1.1, ⟨hk.1.2.1, ⟨hk.1.2.2.1, ⟨hk.1.2.2.2.1, ⟨hk.1.2.2.2.2.1, ⟨hk.1.2.2.2.2.2.1, hk.1.2.2.2.2.2.2⟩⟩⟩⟩⟩⟩, fun e_ => (hk.2) (by rw [e_]; rfl)⟩))).2.1 (Kd.V_F (Kd.V_mono (ok' := (fun k_ => ((fun k_ => (P2_ k_ ∨ w.heap.size ≤ k_) ∧ some k_ ≠ (v185 : Value).ownBlock ∧ some k_ ≠ (u8 : Value).ownBlock ∧ some k_ ≠ (u9 : Value).ownBlock ∧ some k_ ≠ (u10 : Value).ownBlock ∧ k_ ≠ gb183 ∧ k_ ≠ gb211)) k_ ∧ k_ ≠ go23)) (HO217.out) (fun k_ hk => ⟨⟨hk.1.1, ⟨hk.1.2.1, ⟨hk.1.2.2.1, ⟨hk.1.2.2.2.1, ⟨hk.1.2.2.2.2.1, ⟨hk.1.2.2.2.2.2.1, hk.1.2.2.2.2.2.2⟩⟩⟩⟩⟩⟩, fun e_ => (hk.2) (by rw [e_]; rfl)⟩)))) (fun _ hk => hk); have hx78_0 := hcc78 0 _ rfl; (try simp only [show ((Kd.slice 51 k51)).sz = 1 from rfl, Nat.mul_one, Nat.add_zero] at hx78_0); have hf78_0 := hfr78 0; (try simp only [show ((Kd.slice 51 k51)).sz = 1 from rfl, Nat.mul_one, Nat.add_zero] at hf78_0); clear hcl78 hcc78 hfr78 hM78; (try simp only [show ((Kd.slice 51 k51)).sz = 1 from rfl, Nat.mul_one, Nat.add_zero] at HP78); (try simp only [show ((Kd.slice 51 k51)).sz = 1 from rfl, Nat.mul_one, Nat.add_zero] at HP78)) | ((with_reducible refine gate_store (t := 26) (p := 46) rfl ?_); refine store_event (t := 26) (p := 46) (v := ?vo_w79) (w1 := (w76.setCell ⟨go23, ((rd x8_1 (ji14)) : Int).toNat, none⟩ (.slice A77 y213.length c77))) ?hg ?ho ?hn ?hr ?_; (case ho => rfl); (case hg => rfl); (case hn => rfl); (case hr => first | (go_simp; done) | (go_simp; rfl)); intro w79 hw; have hg : w76.grownBy w79 (some go23) := (by rw [hw]; exact HP78.2); have hp_ : Kd.N (Kd.slice 51 k51) 26 w79 w0.heap.size (fun k_ => (P2_ k_ ∨ w.heap.size ≤ k_) ∧ some k_ ≠ (v185 : Value).ownBlock ∧ some k_ ≠ (u8 : Value).ownBlock ∧ some k_ ≠ (u9 : Value).ownBlock ∧ some k_ ≠ (u10 : Value).ownBlock ∧ k_ ≠ gb183 ∧ k_ ≠ gb211) (.slice (some ⟨go23, 0, none⟩) x2_2.length co72) y218 := (by rw [hw, Ny218.out]; exact HP78.1); clear HP78; have n0_ := ak (hp_); have n1_ := ak (Kd.R_over' (v := (.slice (some ⟨go23, 0, none⟩) x2_2.length co72)) (rx HO_7.out) (Kd.N_typed HO_2.out) (by decide) hg); have n2_ := ak (Kd.R_over' (v := (.slice (some ⟨go23, 0, none⟩) x2_2.length co72)) (rx HO_8.out) (Kd.N_typed HO_2.out) (by decide) hg); have n3_ := ak (Kd.R_over' (v := (.slice (some ⟨go23, 0, none⟩) x2_2.length co72)) (rx HO_9.out) (Kd.N_typed HO_2.out) (by decide) hg); have n4_ := ak (Kd.R_over' (v := (.slice (some ⟨go23, 0, none⟩) x2_2.length co72)) (rx HO_10.out) (Kd.N_typed HO_2.out) (by decide) hg); have n5_ := ak (blk_grown (bx BK183.out) hg (Kd.N_ne HO_2.out BK183.out (by decide))); have n6_ := ak (Kd.V_afterv (v := (.slice (some ⟨go23, 0, none⟩) x2_2.length co72)) (v1 := (.slice (some ⟨go23, 0, none⟩) x2_2.length co72)) (ok := (fun k_ => (P2_ k_ ∨ w.heap.size ≤ k_) ∧ some k_ ≠ (v185 : Value).ownBlock ∧ some k_ ≠ (u8 : Value).ownBlock ∧ some k_ ≠ (u9 : Value).ownBlock ∧ some k_ ≠ (u10 : Value).ownBlock ∧ k_ ≠ gb183 ∧ k_ ≠ gb211)) (by exact vx (Kd.V_mono HL194_0.out (fun _ hk => ⟨⟨hk.1, ⟨hk.2.2.1, ⟨hk.2.2.2.1, ⟨hk.2.2.2.2.1, ⟨hk.2.2.2.2.2.1, ⟨hk.2.2.2.2.2.2.1, hk.2.2.2.2.2.2.2⟩⟩⟩⟩⟩⟩, hk.2.1⟩))) hg (.inl rfl)); have n7_ := ak (Kd.V_afterv (v := (.slice (some ⟨go23, 0, none⟩) x2_2.length co72)) (v1 := (.slice (some ⟨go23, 0, none⟩) x2_2.length co72)) (ok := (fun k_ => (P2_ k_ ∨ w.heap.size ≤ k_) ∧ some k_ ≠ (v185 : Value).ownBlock ∧ some k_ ≠ (u8 : Value).ownBlock ∧ some k_ ≠ (u9 : Value).ownBlock ∧ some k_ ≠ (u10 : Value).ownBlock ∧ k_ ≠ gb183 ∧ k_ ≠ gb211)) (by exact vx (Kd.V_mono HL209_0.out (fun _ hk => ⟨⟨hk.1, ⟨hk.2.2.1, ⟨hk.2.2.2.1, ⟨hk.2.2.2.2.1, ⟨hk.2.2.2.2.2.1, ⟨hk.2.2.2.2.2.2.1, hk.2.2.2.2.2.2.2⟩⟩⟩⟩⟩⟩, hk.2.1⟩))) hg (.inl rfl)); have n8_ := ak (blk_grown (bx BK211.out) hg (Kd.N_ne HO_2.out BK211.out (by decide))); have n9_ := ak (Kd.V_afterv (v := (.slice (some ⟨go23, 0, none⟩) x2_2.length co72)) (v1 := (.slice (some ⟨go23, 0, none⟩) x2_2.length co72)) (ok := (fun k_ => (P2_ k_ ∨ w.heap.size ≤ k_) ∧ some k_ ≠ (v185 : Value).ownBlock ∧ some k_ ≠ (u8 : Value).ownBlock ∧ some k_ ≠ (u9 : Value).ownBlock ∧ some k_ ≠ (u10 : Value).ownBlock ∧ k_ ≠ gb183 ∧ k_ ≠ gb211)) (vx HL212_0.out) hg (.inl rfl)); have n10_ := ak (Kd.V_afterv (v := (.slice (some ⟨go23, 0, none⟩) x2_2.length co72)) (v1 := (.slice (some ⟨go23, 0, none⟩) x2_2.length co72)) (ok := (fun k_ => (P2_ k_ ∨ w.heap.size ≤ k_) ∧ some k_ ≠ (v185 : Value).ownBlock ∧ some k_ ≠ (u8 : Value).ownBlock ∧ some k_ ≠ (u9 : Value).ownBlock ∧ some k_ ≠ (u10 : Value).ownBlock ∧ k_ ≠ gb183 ∧ k_ ≠ gb211)) (vx HO217.out) hg (.inl rfl)); have n11_ := ak ((by rw [hw]; exact below_set (HB.out) GB23.out : Below w0.heap.size w0 w79)); have n12_ := ak (Kept.of_grown (S := (fun k_ => P2_ k_)) hg lk (fun k_ e_ => (HO_2.out.1 k_ e_).1)); clear HO_2; clear HO_7; clear HO_8; clear HO_9; clear HO_10; clear BK183; clear HL194_0; clear HL209_0; clear BK211; clear HL212_0; clear HO217; clear HB; clear HK; have HO_2 := n0_; have HO_7 := n1_; have HO_8 := n2_; have HO_9 := n3_; have HO_10 := n4_; have BK183 := n5_; have HL194_0 := n6_; have HL209_0 := n7_; have BK211 := n8_; have HL212_0 := n9_; have HO217 := n10_; have HB := n11_; have HK := n12_; clear n0_ n1_ n2_ n3_ n4_ n5_ n6_ n7_ n8_ n9_ n10_ n11_ n12_; clear hg hw hp_; have hcz80_0 : w79.cell? ⟨gb211, 0, none⟩ = some (.int .i64 ((rd_T51 (rd_L5 x2_2 (rd x8_1 (ji14))) 0).f0)) := (blk_cell BK211.out 0).trans rfl; have hcz80_1 : w79.cell? ⟨gb211, 1, none⟩ = some (.bool false) := (blk_cell BK211.out 1).trans rfl; have hfz80_0 := blk_frozen BK211.out 0; have hfz80_1 := blk_frozen BK211.out 1; obtain ⟨Ao81, co81, eo81⟩ := Kd.R_slice HO_7.out; subst eo81; have p219 : 0 ≤ (((rd_T51 (rd_L5 x2_2 (rd x8_1 (ji14))) 0).f0) : Int) := oda; have q219 : ((rd_T51 (rd_L5 x2_2 (rd x8_1 (ji14))) 0).f0) < (x7_2.length : Int) := oda; obtain ⟨ad219, e219, hx219_0⟩ := Kd.at_bool (Kd.R_reads' HO_7.out).2.2 ((rd_T51 (rd_L5 x2_2 (rd x8_1 (ji14))) 0).f0) p219 q219; (try rw [← Nbq26.out] at hx219_0); (try rw [← Nbq40.out] at hx219_0); cases e219; replace p219 := eq_true p219; replace q219 := eq_true q219; have p38 : 0 ≤ (((rd_T51 (rd_L5 x2_2 (rd x8_1 (ji14))) 0).f0) : Int) := oda; have q38 : (((rd_T51 (rd_L5 x2_2 (rd x8_1 (ji14))) 0).f0) : Int) < ((x7_2.length : Int) : Int) := oda; obtain ⟨go38, co38, eo38, gb38, gl38, cl38, HG38⟩ := Kd.R_form HO_7.out (by omega); (first | cases eo38 | (injection eo38 with ea_ en_ ec_; (first | subst ea_ | (injection ea_ with ea_; subst ea_)); subst ec_; clear en_)); have GB38 := ak gb38; have GG38 := ak HG38; clear gb38 gl38 HG38; have HMgo38 := ak (show (P2_ go38 ∨ w.heap.size ≤ go38) from (HO_7.out.1 _ rfl)); (first | simp only [add_plain] at hx219_0 | skip); obtain ⟨hx38_0, hf38_0⟩ := Kd.R_celln false HO_7.out (((rd_T51 (rd_L5 x2_2 (rd x8_1 (ji14))) 0).f0) : Int) p38 q38; replace p38 := eq_true p38; replace q38 := eq_true q38; obtain ⟨hy82_, hz82_⟩ := Kd.R_celln false HO_7.out (((rd_T51 (rd_L5 x2_2 (rd x8_1 (ji14))) 0).f0) : Int) (oda) (oda); have HP82 := Kd.R_putg HO_7.out (((rd_T51 (rd_L5 x2_2 (rd x8_1 (ji14))) 0).f0) : Int) true) | ((with_reducible refine gate_store (t := 4) (p := 55) rfl ?_); refine store_event (t := 4) (p := 55) (v := ?vo_w83) (w1 := (w79.setCell ⟨go38, (((rd_T51 (rd_L5 x2_2 (rd x8_1 (ji14))) 0).f0) : Int).toNat, none⟩ (.bool true))) ?hg ?ho ?hn ?hr ?_; (case ho => rfl); (case hg => rfl); (case hn => rfl); (case hr => first | (go_simp; done) | (go_simp; rfl)); intro w83 hw; have hg : w79.grownBy w83 (some go38) := (by rw [hw]; exact HP82.2); have hp_ : Kd.R Kd.bool 4 w83 w0.heap.size (fun k_ => (P2_ k_ ∨ w.heap.size ≤ k_)) (.slice (some ⟨go38, 0, none⟩) x7_2.length co81) y220 := (by rw [hw, Ny220.out]; exact HP82.1); clear HP82; have n0_ := ak (Kd.N_afterv (v := (.slice (some ⟨go38, 0, none⟩) x7_2.length co81)) (v1 := (.slice (some ⟨go38, 0, none⟩) x7_2.length co81)) (ok := (fun k_ => (P2_ k_ ∨ w.heap.size ≤ k_) ∧ some k_ ≠ (u8 : Value).ownBlock ∧ some k_ ≠ (u9 : Value).ownBlock ∧ some k_ ≠ (u10 : Value).ownBlock ∧ k_ ≠ gb183 ∧ k_ ≠ gb211)) (by exact nx (Kd.N_mono HO_2.out (fun _ hk => ⟨⟨hk.1, ⟨hk.2.2.1, ⟨hk.2.2.2.1, ⟨hk.2.2.2.2.1, ⟨hk.2.2.2.2.2.1, hk.2.2.2.2.2.2⟩⟩⟩⟩⟩, hk.2.1⟩))) hg (.inl rfl)); have n1_ := ak (hp_); have n2_ := ak (Kd.R_over' (v := (.slice (some ⟨go38, 0, none⟩) x7_2.length co81)) (rx HO_8.out) (Kd.R_typed HO_7.out) (by decide) hg); have n3_ := ak (Kd.R_over' (v := (.slice (some ⟨go38, 0, none⟩) x7_2.length co81)) (rx HO_9.out) (Kd.R_typed HO_7.out) (by decide) hg); have n4_ := ak (Kd.R_over' (v := (.slice (some ⟨go38, 0, none⟩) x7_2.length co81)) (rx HO_10.out) (Kd.R_typed HO_7.out) (by decide) hg); have n5_ := ak (blk_grown (bx BK183.out) hg (Kd.R_ne HO_7.out BK183.out (by decide))); have n6_ := ak (Kd.V_afterv (v := (.slice (some ⟨go38, 0, none⟩) x7_2.length co81)) (v1 := (.slice (some ⟨go38, 0, none⟩) x7_2.length co81)) (ok := (fun k_ => (P2_ k_ ∨ w.heap.size ≤ k_) ∧ some k_ ≠ (.slice (some ⟨go23, 0, none⟩) x2_2.length co72 : Value).ownBlock ∧ some k_ ≠ (u8 : Value).ownBlock ∧ some k_ ≠ (u9 : Value).ownBlock ∧ some k_ ≠ (u10 : Value).ownBlock ∧ k_ ≠ gb183 ∧ k_ ≠ gb211)) (by exact vx (Kd.V_mono HL194_0.out (fun _ hk => ⟨⟨hk.1.1, ⟨hk.2, ⟨hk.1.2.2.1, ⟨hk.1.2.2.2.1, ⟨hk.1.2.2.2.2.1, ⟨hk.1.2.2.2.2.2.1, hk.1.2.2.2.2.2.2⟩⟩⟩⟩⟩⟩, hk.1.2.1⟩))) hg (.inl rfl)); have n7_ := ak (Kd.V_afterv (v := (.slice (some ⟨go38, 0, none⟩) x7_2.length co81)) (v1 := (.slice (some ⟨go38, 0, none⟩) x7_2.length co81)) (ok := (fun k_ => (P2_ k_ ∨ w.heap.size ≤ k_) ∧ some k_ ≠ (.slice (some ⟨go23, 0, none⟩) x2_2.length co72 : Value).ownBlock ∧ some k_ ≠ (u8 : Value).ownBlock ∧ some k_ ≠ (u9 : Value).ownBlock ∧ some k_ ≠ (u10 : Value).ownBlock ∧ k_ ≠ gb183 ∧ k_ ≠ gb211)) (by exact vx (Kd.V_mono HL209_0.out (fun _ hk => ⟨⟨hk.1.1, ⟨hk.2, ⟨hk.1.2.2.1, ⟨hk.1.2.2.2.1, ⟨hk.1.2.2.2.2.1, ⟨hk.1.2.2.2.2.2.1, hk.1.2.2.2.2.2.2⟩⟩⟩⟩⟩⟩, hk.1.2.1⟩))) hg (.inl rfl)); have n8_ := ak (blk_grown (bx BK211.out) hg (Kd.R_ne HO_7.out BK211.out (by decide))); have n9_ := ak (Kd.V_afterv (v := (.slice (some ⟨go38, 0, none⟩) x7_2.length co81)) (v1 := (.slice (some ⟨go38, 0, none⟩) x7_2.length co81)) (ok := (fun k_ => (P2_ k_ ∨ w.heap.size ≤ k_) ∧ some k_ ≠ (.slice (some ⟨go23, 0, none⟩) x2_2.length co72 : Value).ownBlock ∧ some k_ ≠ (u8 : Value).ownBlock ∧ some k_ ≠ (u9 : Value).ownBlock ∧ some k_ ≠ (u10 : Value).ownBlock ∧ k_ ≠ gb183 ∧ k_ ≠ gb211)) (by exact vx (Kd.V_mono HL212_0.out (fun _ hk => ⟨⟨hk.1.1, ⟨hk.2, ⟨hk.1.2.2.1, ⟨hk.1.2.2.2.1, ⟨hk.1.2.2.2.2.1, ⟨hk.1.2.2.2.2.2.1, hk.1.2.2.2.2.2.2⟩⟩⟩⟩⟩⟩, hk.1.2.1⟩))) hg (.inl rfl)); have n10_ := ak (Kd.V_afterv (v := (.slice (some ⟨go38, 0, none⟩) x7_2.length co81)) (v1 := (.slice (some ⟨go38, 0, none⟩) x7_2.length co81)) (ok := (fun k_ => (P2_ k_ ∨ w.heap.size ≤ k_) ∧ some k_ ≠ (.slice (some ⟨go23, 0, none⟩) x2_2.length co72 : Value).ownBlock ∧ some k_ ≠ (u8 : Value).ownBlock ∧ some k_ ≠ (u9 : Value).ownBlock ∧ some k_ ≠ (u10 : Value).ownBlock ∧ k_ ≠ gb183 ∧ k_ ≠ gb211)) (by exact vx (Kd.V_mono HO217.out (fun _ hk => ⟨⟨hk.1.1, ⟨hk.2, ⟨hk.1.2.2.1, ⟨hk.1.2.2.2.1, ⟨hk.1.2.2.2.2.1, ⟨hk.1.2.2.2.2.2.1, hk.1.2.2.2.2.2.2⟩⟩⟩⟩⟩⟩, hk.1.2.1⟩))) hg (.inl rfl)); have n11_ := ak ((by rw [hw]; exact below_set (HB.out) GB38.out : Below w0.heap.size w0 w83)); have n12_ := ak (Kept.of_grown (S := (fun k_ => P2_ k_)) hg lk (fun k_ e_ => (HO_7.out.1 k_ e_))); clear HO_2; clear HO_7; clear HO_8; clear HO_9; clear HO_10; clear BK183; clear HL194_0; clear HL209_0; clear BK211; clear HL212_0; clear HO217; clear HB; clear HK; have HO_2 := n0_; have HO_7 := n1_; have HO_8 := n2_; have HO_9 := n3_; have HO_10 := n4_; have BK183 := n5_; have HL194_0 := n6_; have HL209_0 := n7_; have BK211 := n8_; have HL212_0 := n9_; have HO217 := n10_; have HB := n11_; have HK := n12_; clear n0_ n1_ n2_ n3_ n4_ n5_ n6_ n7_ n8_ n9_ n10_ n11_ n12_; clear hg hw hp_; have hcz84_0 : w83.cell? ⟨gb183, 0, none⟩ = some (.int .i64 a0_0) := (blk_cell BK183.out 0).trans rfl; have hcz84_1 : w83.cell? ⟨gb183, 1, none⟩ = some (.slice A0_1 l0_1.length c0_1) := (blk_cell BK183.out 1).trans rfl; have hfz84_0 := blk_frozen BK183.out 0; have hfz84_1 := blk_frozen BK183.out 1; have hcz85_0 : w83.cell? ⟨gb211, 0, none⟩ = some (.int .i64 ((rd_T51 (rd_L5 x2_2 (rd x8_1 (ji14))) 0).f0)) := (blk_cell BK211.out 0).trans rfl; have hcz85_1 : w83.cell? ⟨gb211, 1, none⟩ = some (.bool false) := (blk_cell BK211.out 1).trans rfl; have hfz85_0 := blk_frozen BK211.out 0; have hfz85_1 := blk_frozen BK211.out 1; have p221 : 0 ≤ (((rd_T51 (rd_L5 x2_2 (rd x8_1 (ji14))) 0).f0) : Int) := oda; have q221 : ((rd_T51 (rd_L5 x2_2 (rd x8_1 (ji14))) 0).f0) < (l0_1.length : Int) := oda; obtain ⟨ad221, e221, hx221_0, hx221_1, hx221_2, hx221_3⟩ := at_T45 (Kd.C_kept_now HR0_1.out HK.out) ((rd_T51 (rd_L5 x2_2 (rd x8_1 (ji14))) 0).f0) p221 q221; cases e221; replace p221 := eq_true p221; replace q221 := eq_true q221; obtain ⟨Ao86, co86, eo86⟩ := Kd.R_slice HO_8.out; subst eo86; obtain ⟨Ao87, co87, eo87⟩ := Kd.R_slice HO_9.out; subst eo87))
        have n0_ := ak (Kd.N_drew HO_2.out)
        have n1_ := ak (Kd.R_drew HO_7.out)
        have n2_ := ak (Kd.R_drew HO_8.out)
        have n3_ := ak (Kd.R_drew HO_9.out)
        have n4_ := ak (Kd.R_drew HO_10.out)
        have n5_ := ak (Kd.V_drew HL194_0.out)
        have n6_ := ak (Kd.V_drew HL209_0.out)
        have n7_ := ak (Kd.V_drew HL212_0.out)
        have n8_ := ak (Kd.V_drew HO217.out)
        have n9_ := ak (blk_drew BK183.out)
        have n10_ := ak (blk_drew BK211.out)
        have n11_ := ak (Kept.drew HK.out)
        have n12_ := ak (below_drew1 HB.out)
        clear HO_2
        clear HO_7
        clear HO_8
        clear HO_9
        clear HO_10
        clear HL194_0
        clear HL209_0
        clear HL212_0
        clear HO217
        clear BK183
        clear BK211
        clear HK
        clear HB
        have HO_2 := n0_
        have HO_7 := n1_
        have HO_8 := n2_
        have HO_9 := n3_
        have HO_10 := n4_
        have HL194_0 := n5_
        have HL209_0 := n6_
        have HL212_0 := n7_
        have HO217 := n8_
        have BK183 := n9_
        have BK211 := n10_
        have HK := n11_
        have HB := n12_
        clear n0_ n1_ n2_ n3_ n4_ n5_ n6_ n7_ n8_ n9_ n10_ n11_ n12_
        refine start_ (n := 10) (S := fun w' => w'.cell? ⟨gb211, 0, none⟩ = some (.int .i64 ((rd_T51 (rd_L5 x2_2 (rd x8_1 (ji14))) 0).f0)) ∧ w'.cell? ⟨gb211, 1, none⟩ = some (.bool false)) (ds := []) #[false, false, false, false, false, false, false, false, false, false] (by kernel_rfl) rfl rfl ⟨(blk_cell BK211.out 0).trans rfl, (blk_cell BK211.out 1).trans rfl⟩ (fun hHeld => ?_); refine with_tabW euler_circuit.tab13 euler_circuit.bits13 (fun HT_ HW_ => ?_)
        generalize w83.drew = w88 at HO_2 HO_7 HO_8 HO_9 HO_10 HL194_0 HL209_0 HL212_0 HO217 BK183 BK211 HK HB hHeld ⊢
        refine pure_ (i := 0) (N := some 72) (v := ?_) (a' := ?_) #[true, false, false, false, false, false, false, false, false, false] rfl rfl (any_of HT_.out (by kernel_rfl)) (fun _ _ _ h => h) (Or.inl ⟨by rfl, ?_⟩) ?_ ?_; rotate_left; intro w'; go_simp; with_reducible rfl; rotate_left; simp only [Act.put, List.setIfInBounds_toArray, List.set_cons_zero, List.set_cons_succ, i64_w, i32_w]; rfl
        refine pure_ (i := 1) (N := some 73) (v := ?_) (a' := ?_) #[true, true, false, false, false, false, false, false, false, false] rfl rfl (any_of HT_.out (by kernel_rfl)) (fun _ _ _ h => h) (Or.inl ⟨by rfl, ?_⟩) ?_ ?_; rotate_left; intro w'; go_simp; with_reducible rfl; rotate_left; simp only [Act.put, List.setIfInBounds_toArray, List.set_cons_zero, List.set_cons_succ, i64_w, i32_w]; rfl
        refine pure_ (i := 4) (N := some 76) (v := ?_) (a' := ?_) #[true, true, false, false, true, false, false, false, false, false] rfl rfl (any_of HT_.out (by kernel_rfl)) (fun _ _ _ h => h) (Or.inl ⟨by rfl, ?_⟩) ?_ ?_; rotate_left; intro w'; go_simp; with_reducible rfl; rotate_left; simp only [Act.put, List.setIfInBounds_toArray, List.set_cons_zero, List.set_cons_succ, i64_w, i32_w]; rfl
        refine take_ (i := 5) (N := some 77) (v := ?_) (a' := ?_) #[true, true, false, false, true, true, false, false, false, false] rfl rfl (take_ofW HT_.out HW_.out (by kernel_rfl)) (fun _ _ _ h => h) (Or.inl ⟨by rfl, ?_⟩) hHeld ?_ ?_; rotate_left; rintro w' ⟨s0, s1⟩; go_simp; with_reducible rfl; rotate_left; simp only [Act.put, List.setIfInBounds_toArray, List.set_cons_zero, List.set_cons_succ, i64_w, i32_w]; rfl
        refine join_ (σ := Value × Value × Value) 3 #[true, true, true, true, true, true, true, false, false, false] (fun s_ => [(74, s_.1), (75, s_.2.1), (78, s_.2.2)]) (fun s_ w' => (w'.cell? ⟨gb211, 0, none⟩ = some (.int .i64 ((rd_T51 (rd_L5 x2_2 (rd x8_1 (ji14))) 0).f0)) ∧ w'.cell? ⟨gb211, 1, none⟩ = some (.bool false)) ∧ (Kd.V k51 51 w' w0.heap.size (fun k_ => (P2_ k_ ∨ w.heap.size ≤ k_) ∧ some k_ ≠ (s_.1 : Value).ownBlock ∧ some k_ ≠ (s_.2.1 : Value).ownBlock ∧ some k_ ≠ (s_.2.2 : Value).ownBlock ∧ some k_ ≠ (u10 : Value).ownBlock ∧ some k_ ≠ (.slice (some ⟨go23, 0, none⟩) x2_2.length co72 : Value).ownBlock ∧ some k_ ≠ (.slice (some ⟨go38, 0, none⟩) x7_2.length co81 : Value).ownBlock ∧ some k_ ≠ (.slice Ao87 x9_2.length co87 : Value).ownBlock ∧ k_ ≠ gb183 ∧ k_ ≠ gb211) (.slice (some ad210) (rd_L5 x2_2 (rd x8_1 (ji14))).length c194_0) (rd_L5 x2_2 (rd x8_1 (ji14)))) ∧ (Kd.V k51 51 w' w0.heap.size (fun k_ => (P2_ k_ ∨ w.heap.size ≤ k_) ∧ some k_ ≠ (s_.1 : Value).ownBlock ∧ some k_ ≠ (s_.2.1 : Value).ownBlock ∧ some k_ ≠ (s_.2.2 : Value).ownBlock ∧ some k_ ≠ (u10 : Value).ownBlock ∧ some k_ ≠ (.slice (some ⟨go23, 0, none⟩) x2_2.length co72 : Value).ownBlock ∧ some k_ ≠ (.slice (some ⟨go38, 0, none⟩) x7_2.length co81 : Value).ownBlock ∧ some k_ ≠ (.slice Ao87 x9_2.length co87 : Value).ownBlock ∧ k_ ≠ gb183 ∧ k_ ≠ gb211) (.slice (some ad210) (rd_L5 x2_2 (rd x8_1 (ji14))).length c194_0) (rd_L5 x2_2 (rd x8_1 (ji14)))) ∧ (Kd.V k51 51 w' w0.heap.size (fun k_ => (P2_ k_ ∨ w.heap.size ≤ k_) ∧ some k_ ≠ (s_.1 : Value).ownBlock ∧ some k_ ≠ (s_.2.1 : Value).ownBlock ∧ some k_ ≠ (s_.2.2 : Value).ownBlock ∧ some k_ ≠ (u10 : Value).ownBlock ∧ some k_ ≠ (.slice (some ⟨go23, 0, none⟩) x2_2.length co72 : Value).ownBlock ∧ some k_ ≠ (.slice (some ⟨go38, 0, none⟩) x7_2.length co81 : Value).ownBlock ∧ some k_ ≠ (.slice Ao87 x9_2.length co87 : Value).ownBlock ∧ k_ ≠ gb183 ∧ k_ ≠ gb211) (.slice A212_0 (rd_L5 x2_2 (rd x8_1 (ji14))).length c212_0) (rd_L5 x2_2 (rd x8_1 (ji14)))) ∧ (Kd.V k51 51 w' w0.heap.size (fun k_ => (P2_ k_ ∨ w.heap.size ≤ k_) ∧ some k_ ≠ (s_.1 : Value).ownBlock ∧ some k_ ≠ (s_.2.1 : Value).ownBlock ∧ some k_ ≠ (s_.2.2 : Value).ownBlock ∧ some k_ ≠ (u10 : Value).ownBlock ∧ some k_ ≠ (.slice (some ⟨go23, 0, none⟩) x2_2.length co72 : Value).ownBlock ∧ some k_ ≠ (.slice (some ⟨go38, 0, none⟩) x7_2.length co81 : Value).ownBlock ∧ some k_ ≠ (.slice Ao87 x9_2.length co87 : Value).ownBlock ∧ k_ ≠ gb183 ∧ k_ ≠ gb211) (.slice A77 y213.length c77) y213) ∧ (Kd.R (Kd.int .i64) 3 w' w0.heap.size (fun k_ => (P2_ k_ ∨ w.heap.size ≤ k_) ∧ some k_ ≠ (s_.2.1 : Value).ownBlock) s_.1 y235) ∧ (Kd.R (Kd.int .i64) 3 w' w0.heap.size (fun k_ => (P2_ k_ ∨ w.heap.size ≤ k_) ∧ some k_ ≠ (s_.1 : Value).ownBlock) s_.2.1 y238) ∧ (Kd.R k51 51 w' w0.heap.size (fun k_ => (P2_ k_ ∨ w.heap.size ≤ k_) ∧ some k_ ≠ (u10 : Value).ownBlock ∧ some k_ ≠ (.slice Ao87 x9_2.length co87 : Value).ownBlock ∧ k_ ≠ gb211) s_.2.2 y241) ∧ (Kd.R k51 51 w' w0.heap.size (fun k_ => (P2_ k_ ∨ w.heap.size ≤ k_) ∧ some k_ ≠ (s_.2.2 : Value).ownBlock ∧ some k_ ≠ (.slice Ao87 x9_2.length co87 : Value).ownBlock ∧ k_ ≠ gb211) u10 x10_1) ∧ (Kd.N (Kd.slice 51 k51) 26 w' w0.heap.size (fun k_ => (P2_ k_ ∨ w.heap.size ≤ k_) ∧ some k_ ≠ (s_.1 : Value).ownBlock ∧ some k_ ≠ (s_.2.1 : Value).ownBlock ∧ some k_ ≠ (s_.2.2 : Value).ownBlock ∧ some k_ ≠ (u10 : Value).ownBlock ∧ some k_ ≠ (.slice (some ⟨go38, 0, none⟩) x7_2.length co81 : Value).ownBlock ∧ some k_ ≠ (.slice Ao87 x9_2.length co87 : Value).ownBlock ∧ k_ ≠ gb183 ∧ k_ ≠ gb211) (.slice (some ⟨go23, 0, none⟩) x2_2.length co72) y218) ∧ (Kd.R Kd.bool 4 w' w0.heap.size (fun k_ => (P2_ k_ ∨ w.heap.size ≤ k_)) (.slice (some ⟨go38, 0, none⟩) x7_2.length co81) y220) ∧ (Kd.R k51 51 w' w0.heap.size (fun k_ => (P2_ k_ ∨ w.heap.size ≤ k_) ∧ some k_ ≠ (s_.2.2 : Value).ownBlock ∧ some k_ ≠ (u10 : Value).ownBlock ∧ k_ ≠ gb211) (.slice Ao87 x9_2.length co87) x9_2) ∧ (w'.heap[gb183]? = some (.cells #[.int .i64 a0_0, .slice (some ad221) l0_1.length c0_1] 24 (0, 0))) ∧ (w'.heap[gb211]? = some (.cells #[.int .i64 ((rd_T51 (rd_L5 x2_2 (rd x8_1 (ji14))) 0).f0), .bool false] 51 (0, 0))) ∧ (Kept w w' (fun k_ => P2_ k_)) ∧ (Below w0.heap.size w0 w')) ?_ ?_
        rotate_left
        ·
         intro hCont
         refine two_ (i := 2) (j := 6) (Ni := some 74) (Nj := some 78) #[true, true, true, false, true, true, false, false, false, false] #[true, true, false, false, true, true, true, false, false, false] rfl rfl rfl rfl (two_of HT_.out (by kernel_rfl)) (by decide) (by decide) (fun K hK => ?_) (fun K hK => ?_)
         ·
          skip
          refine Kd.R_lit_step (Kd.int .i64) _ 3 ?hg (N := 74) ?hd (xs := ([(rd_T45 l0_1 ((rd_T51 (rd_L5 x2_2 (rd x8_1 (ji14))) 0).f0)).f1] : List Int)) (inner := [.int .i64 ((rd_T45 l0_1 ((rd_T51 (rd_L5 x2_2 (rd x8_1 (ji14))) 0).f0)).f1)]) (ok := fun _ => True) (okp := fun _ => True) ?hr ?hp (fun _ hk => hk) trivial (Below.refl _ _) (Nat.le_refl _) (by simp) ?_; (case hd => rfl); (case hg => rfl); (case hr => first | (go_simp; done) | (go_simp; rfl)); (case hp => exact (Reps.one (show Kd.M (Kd.int .i64) _ _ _ ((rd_T45 l0_1 ((rd_T51 (rd_L5 x2_2 (rd x8_1 (ji14))) 0).f0)).f1) [.int .i64 ((rd_T45 l0_1 ((rd_T51 (rd_L5 x2_2 (rd x8_1 (ji14))) 0).f0)).f1)] from rfl) (Reps.none _ _)))
          intro v236 w89 ho90 hb hg_ hnew_
          clear hg_ hnew_
          (first | rw [← Ny235.out] at ho90 | (simp only [Int.reduceToNat] at ho90; rw [← Ny235.out] at ho90))
          have n0_ := ak (Kd.N_elder' (nx HO_2.out) (Kd.R_base ho90) hb)
          have n1_ := ak (Kd.R_below (rx HO_7.out) hb)
          have n2_ := ak (Kd.R_elder' (rx HO_8.out) (Kd.R_base ho90) hb)
          have n3_ := ak (Kd.R_below (rx HO_9.out) hb)
          have n4_ := ak (Kd.R_below (rx HO_10.out) hb)
          have n5_ := ak (Kd.V_elder' (vx HL194_0.out) (Kd.R_base ho90) hb)
          have n6_ := ak (Kd.V_elder' (vx HL209_0.out) (Kd.R_base ho90) hb)
          have n7_ := ak (Kd.V_elder' (vx HL212_0.out) (Kd.R_base ho90) hb)
          have n8_ := ak (Kd.V_elder' (vx HO217.out) (Kd.R_base ho90) hb)
          have n9_ := ak (Kd.R_lower (Kd.R_new' (Kd.R_newM (M := fun k_ => (P2_ k_ ∨ w.heap.size ≤ k_)) ho90 (by first | exact HK.out.1 | exact (show Kept w _ (fun k_ => P2_ k_) from lk).1) (fun k_ h_ => .inr h_)) (Kd.R_lt (rx HO_8.out))) (below_size lb))
          have n10_ := ak (blk_below (bx BK183.out) hb)
          have n11_ := ak (blk_below (bx BK211.out) hb)
          have n12_ := ak (Kept.below (S := (fun k_ => P2_ k_)) lk hb)
          have n13_ := ak (below_step lb hb)
          clear HO_2
          clear HO_7
          clear HO_8
          clear HO_9
          clear HO_10
          clear HL194_0
          clear HL209_0
          clear HL212_0
          clear HO217
          clear BK183
          clear BK211
          clear HK
          clear HB
          have HO_2 := n0_
          have HO_7 := n1_
          have HO_8 := n2_
          have HO_9 := n3_
          have HO_10 := n4_
          have HL194_0 := n5_
          have HL209_0 := n6_
          have HL212_0 := n7_
          have HO217 := n8_
          have HO237 := n9_
          have BK183 := n10_
          have BK211 := n11_
          have HK := n12_
          have HB := n13_
          clear n0_ n1_ n2_ n3_ n4_ n5_ n6_ n7_ n8_ n9_ n10_ n11_ n12_ n13_
          clear hb ho90
          obtain ⟨Ao92, co92, eo92⟩ := Kd.R_slice HO237.out
          (first | subst eo92 | (injection eo92 with f1_ f2_ f3_; have f4_ := f1_.symm; have f5_ := f3_.symm; clear f1_ f2_ f3_; subst f4_; subst f5_))
          refine hK.out _ _ ⟨(blk_cell BK211.out 0).trans rfl, (blk_cell BK211.out 1).trans rfl⟩ (fun hHeld => ?_)
          clear hK K
          refine norm_ (a' := ?_) ?_ ?_
          rotate_left
          ·
           show Act.put _ (some 74) _ = _
           simp only [Act.put, List.setIfInBounds_toArray, List.set_cons_zero, List.set_cons_succ, i64_w, i32_w]
           rfl
          refine two_ (i := 3) (j := 6) (Ni := some 75) (Nj := some 78) #[true, true, true, true, true, true, false, false, false, false] #[true, true, true, false, true, true, true, false, false, false] rfl rfl rfl rfl (two_of HT_.out (by kernel_rfl)) (by decide) (by decide) (fun K hK => ?_) (fun K hK => ?_)
          ·
           skip
           refine Kd.R_append_rows_step (Kd.int .i64) (w0 := w0) w0.heap.size (by rfl) (.tmp 72) (.tmp 74) 62 3 (.int .i64 0) 8 rfl Try.underlying62 info3 rfl (by decide) (by omega) (.slice Ao86 x8_2.length co86) x8_2 y235 _ _ _ (fun k_ => (P2_ k_ ∨ w.heap.size ≤ k_) ∧ some k_ ≠ (.slice Ao92 y235.length co92 : Value).ownBlock) (fun _ => False) rfl rfl ?aO ?aR (fun _ _ h => h) (fun _ h => h.elim) ?aF ?aB ?aS ?aL ?_
           (case aR => repeat (first | exact (Kd.R_reads' HO237.out).2.2 | (with_reducible refine Kd.C_alloc ?_ _) | (with_reducible refine Kd.C_drewN ?_ _) | (with_reducible refine Kd.C_drew ?_)))
           (case aB => exact lb)
           (case aF => exact (fun k_ hk => ⟨(.inr (Nat.le_trans (by first | exact HK.out.1 | exact (show Kept w _ (fun k_ => P2_ k_) from lk).1) hk)), Kd.fresh' (Kd.R_lt (rx HO237.out)) k_ hk⟩))
           (case aO => exact (rx HO_8.out))
           (case aS => exact (below_size lb))
           (case aL => have := LMc70.out; omega)
           intro v239 w91 ho hb hg hat
           rw [← Ny238.out] at ho
           have n0_ := ak (Kd.N_afterv (ok := (fun k_ => (P2_ k_ ∨ w.heap.size ≤ k_) ∧ some k_ ≠ (.slice (some ⟨go38, 0, none⟩) x7_2.length co81 : Value).ownBlock ∧ some k_ ≠ (.slice Ao87 x9_2.length co87 : Value).ownBlock ∧ some k_ ≠ (u10 : Value).ownBlock ∧ some k_ ≠ (.slice Ao92 y235.length co92 : Value).ownBlock ∧ k_ ≠ gb183 ∧ k_ ≠ gb211)) (by exact nx (Kd.N_mono HO_2.out (fun _ hk => ⟨⟨hk.1.1.1, ⟨hk.1.2, ⟨hk.1.1.2.2.1, ⟨hk.1.1.2.2.2.1, ⟨hk.2, ⟨hk.1.1.2.2.2.2.1, hk.1.1.2.2.2.2.2⟩⟩⟩⟩⟩⟩, hk.1.1.2.1⟩))) hg hat)
           have n1_ := ak (Kd.R_over' (rx HO_7.out) (Kd.R_typed (rx HO_8.out)) (by decide) hg)
           have n2_ := ak (Kd.R_over' (rx HO_9.out) (Kd.R_typed (rx HO_8.out)) (by decide) hg)
           have n3_ := ak (Kd.R_over' (rx HO_10.out) (Kd.R_typed (rx HO_8.out)) (by decide) hg)
           have n4_ := ak (blk_grown (bx BK183.out) hg (Kd.R_ne HO_8.out BK183.out (by decide)))
           have n5_ := ak (Kd.V_afterv (ok := (fun k_ => (P2_ k_ ∨ w.heap.size ≤ k_) ∧ some k_ ≠ (.slice (some ⟨go23, 0, none⟩) x2_2.length co72 : Value).ownBlock ∧ some k_ ≠ (.slice (some ⟨go38, 0, none⟩) x7_2.length co81 : Value).ownBlock ∧ some k_ ≠ (.slice Ao87 x9_2.length co87 : Value).ownBlock ∧ some k_ ≠ (u10 : Value).ownBlock ∧ some k_ ≠ (.slice Ao92 y235.length co92 : Value).ownBlock ∧ k_ ≠ gb183 ∧ k_ ≠ gb211)) (by exact vx (Kd.V_mono HL194_0.out (fun _ hk => ⟨⟨hk.1.1.1, ⟨hk.1.1.2.1, ⟨hk.1.2, ⟨hk.1.1.2.2.2.1, ⟨hk.1.1.2.2.2.2.1, ⟨hk.2, ⟨hk.1.1.2.2.2.2.2.1, hk.1.1.2.2.2.2.2.2⟩⟩⟩⟩⟩⟩⟩, hk.1.1.2.2.1⟩))) hg hat)
           have n6_ := ak (Kd.V_afterv (ok := (fun k_ => (P2_ k_ ∨ w.heap.size ≤ k_) ∧ some k_ ≠ (.slice (some ⟨go23, 0, none⟩) x2_2.length co72 : Value).ownBlock ∧ some k_ ≠ (.slice (some ⟨go38, 0, none⟩) x7_2.length co81 : Value).ownBlock ∧ some k_ ≠ (.slice Ao87 x9_2.length co87 : Value).ownBlock ∧ some k_ ≠ (u10 : Value).ownBlock ∧ some k_ ≠ (.slice Ao92 y235.length co92 : Value).ownBlock ∧ k_ ≠ gb183 ∧ k_ ≠ gb211)) (by exact vx (Kd.V_mono HL209_0.out (fun _ hk => ⟨⟨hk.1.1.1, ⟨hk.1.1.2.1, ⟨hk.1.2, ⟨hk.1.1.2.2.2.1, ⟨hk.1.1.2.2.2.2.1, ⟨hk.2, ⟨hk.1.1.2.2.2.2.2.1, hk.1.1.2.2.2.2.2.2⟩⟩⟩⟩⟩⟩⟩, hk.1.1.2.2.1⟩))) hg hat)
           have n7_ := ak (blk_grown (bx BK211.out) hg (Kd.R_ne HO_8.out BK211.out (by decide)))
           have n8_ := ak (Kd.V_afterv (ok := (fun k_ => (P2_ k_ ∨ w.heap.size ≤ k_) ∧ some k_ ≠ (.slice (some ⟨go23, 0, none⟩) x2_2.length co72 : Value).ownBlock ∧ some k_ ≠ (.slice (some ⟨go38, 0, none⟩) x7_2.length co81 : Value).ownBlock ∧ some k_ ≠ (.slice Ao87 x9_2.length co87 : Value).ownBlock ∧ some k_ ≠ (u10 : Value).ownBlock ∧ some k_ ≠ (.slice Ao92 y235.length co92 : Value).ownBlock ∧ k_ ≠ gb183 ∧ k_ ≠ gb211)) (by exact vx (Kd.V_mono HL212_0.out (fun _ hk => ⟨⟨hk.1.1.1, ⟨hk.1.1.2.1, ⟨hk.1.2, ⟨hk.1.1.2.2.2.1, ⟨hk.1.1.2.2.2.2.1, ⟨hk.2, ⟨hk.1.1.2.2.2.2.2.1, hk.1.1.2.2.2.2.2.2⟩⟩⟩⟩⟩⟩⟩, hk.1.1.2.2.1⟩))) hg hat)
           have n9_ := ak (Kd.V_afterv (ok := (fun k_ => (P2_ k_ ∨ w.heap.size ≤ k_) ∧ some k_ ≠ (.slice (some ⟨go23, 0, none⟩) x2_2.length co72 : Value).ownBlock ∧ some k_ ≠ (.slice (some ⟨go38, 0, none⟩) x7_2.length co81 : Value).ownBlock ∧ some k_ ≠ (.slice Ao87 x9_2.length co87 : Value).ownBlock ∧ some k_ ≠ (u10 : Value).ownBlock ∧ some k_ ≠ (.slice Ao92 y235.length co92 : Value).ownBlock ∧ k_ ≠ gb183 ∧ k_ ≠ gb211)) (by exact vx (Kd.V_mono HO217.out (fun _ hk => ⟨⟨hk.1.1.1, ⟨hk.1.1.2.1, ⟨hk.1.2, ⟨hk.1.1.2.2.2.1, ⟨hk.1.1.2.2.2.2.1, ⟨hk.2, ⟨hk.1.1.2.2.2.2.2.1, hk.1.1.2.2.2.2.2.2⟩⟩⟩⟩⟩⟩⟩, hk.1.1.2.2.1⟩))) hg hat)
           have n10_ := ak (Kd.R_after (ok := (fun k_ => (P2_ k_ ∨ w.heap.size ≤ k_))) (by exact rx (Kd.R_mono HO237.out (fun _ hk => ⟨hk.1.1, hk.2⟩))) hg hat)
           have n11_ := ak (hb)
           have n12_ := ak (Kept.of_grown (S := (fun k_ => P2_ k_)) hg lk (fun k_ e_ => (HO_8.out.1 k_ e_).1))
           have n13_ := ak (ho)
           clear HO_2
           clear HO_7
           clear HO_9
           clear HO_10
           clear BK183
           clear HL194_0
           clear HL209_0
           clear BK211
           clear HL212_0
           clear HO217
           clear HO237
           clear HB
           clear HK
           clear HO_8
           have HO_2 := n0_
           have HO_7 := n1_
           have HO_9 := n2_
           have HO_10 := n3_
           have BK183 := n4_
           have HL194_0 := n5_
           have HL209_0 := n6_
           have BK211 := n7_
           have HL212_0 := n8_
           have HO217 := n9_
           have HO237 := n10_
           have HB := n11_
           have HK := n12_
           have HO240 := n13_
           clear n0_ n1_ n2_ n3_ n4_ n5_ n6_ n7_ n8_ n9_ n10_ n11_ n12_ n13_
           clear ho hb hg hat
           refine hK.out _ _ ⟨(blk_cell BK211.out 0).trans rfl, (blk_cell BK211.out 1).trans rfl⟩ (fun hHeld => ?_)
           clear hK K
           refine norm_ (a' := ?_) ?_ ?_
           rotate_left
           ·
            show Act.put _ (some 75) _ = _
            simp only [Act.put, List.setIfInBounds_toArray, List.set_cons_zero, List.set_cons_succ, i64_w, i32_w]
            rfl
           refine one_ (i := 6) (N := some 78) #[true, true, true, true, true, true, true, false, false, false] rfl rfl (one_of HT_.out (by kernel_rfl)) (by decide) (fun K hK => ?_)
           refine Kd.R_lit_step k51 _ 51 ?hg (N := 78) ?hd (xs := ([(⟨(rd_T51 (rd_L5 x2_2 (rd x8_1 (ji14))) 0).f0, false⟩ : S51)] : List (S51))) (inner := [.int .i64 ((rd_T51 (rd_L5 x2_2 (rd x8_1 (ji14))) 0).f0), .bool false]) (ok := fun _ => True) (okp := fun _ => True) ?hr ?hp (fun _ hk => hk) trivial (Below.refl _ _) (Nat.le_refl _) (by simp) ?_; (case hd => rfl); (case hg => rfl); (case hr => first | (go_simp; done) | (go_simp; rfl)); (case hp => exact (Reps.c2 (show Kd.M k51 _ _ _ (⟨(rd_T51 (rd_L5 x2_2 (rd x8_1 (ji14))) 0).f0, false⟩ : S51) [.int .i64 ((rd_T51 (rd_L5 x2_2 (rd x8_1 (ji14))) 0).f0), .bool false] from (k51_mkM _ _ _ (⟨(rd_T51 (rd_L5 x2_2 (rd x8_1 (ji14))) 0).f0, false⟩ : S51) )) (Reps.none _ _)))
           intro v242 w93 ho94 hb hg_ hnew_
           clear hg_ hnew_
           (first | rw [← Ny241.out] at ho94 | (simp only [Int.reduceToNat] at ho94; rw [← Ny241.out] at ho94))
           have n0_ := ak (Kd.N_elder' (nx HO_2.out) (Kd.R_base ho94) hb)
           have n1_ := ak (Kd.R_below (rx HO_7.out) hb)
           have n2_ := ak (Kd.R_elder' (rx HO_9.out) (Kd.R_base ho94) hb)
           have n3_ := ak (Kd.R_elder' (rx HO_10.out) (Kd.R_base ho94) hb)
           have n4_ := ak (Kd.V_elder' (vx HL194_0.out) (Kd.R_base ho94) hb)
           have n5_ := ak (Kd.V_elder' (vx HL209_0.out) (Kd.R_base ho94) hb)
           have n6_ := ak (Kd.V_elder' (vx HL212_0.out) (Kd.R_base ho94) hb)
           have n7_ := ak (Kd.V_elder' (vx HO217.out) (Kd.R_base ho94) hb)
           have n8_ := ak (Kd.R_below (rx HO237.out) hb)
           have n9_ := ak (Kd.R_below (rx HO240.out) hb)
           have n10_ := ak (Kd.R_lower (Kd.R_newB (Kd.R_new' (Kd.R_new' (Kd.R_newM (M := fun k_ => (P2_ k_ ∨ w.heap.size ≤ k_)) ho94 (by first | exact HK.out.1 | exact (show Kept w _ (fun k_ => P2_ k_) from lk).1) (fun k_ h_ => .inr h_)) (Kd.R_lt (rx HO_9.out))) (Kd.R_lt (rx HO_10.out))) (g := gb211) (o := .cells #[.int .i64 ((rd_T51 (rd_L5 x2_2 (rd x8_1 (ji14))) 0).f0), .bool false] 51 (0, 0)) (bx BK211.out)) (below_size lb))
           have n11_ := ak (blk_below (bx BK183.out) hb)
           have n12_ := ak (blk_below (bx BK211.out) hb)
           have n13_ := ak (Kept.below (S := (fun k_ => P2_ k_)) lk hb)
           have n14_ := ak (below_step lb hb)
           clear HO_2
           clear HO_7
           clear HO_9
           clear HO_10
           clear HL194_0
           clear HL209_0
           clear HL212_0
           clear HO217
           clear HO237
           clear HO240
           clear BK183
           clear BK211
           clear HK
           clear HB
           have HO_2 := n0_
           have HO_7 := n1_
           have HO_9 := n2_
           have HO_10 := n3_
           have HL194_0 := n4_
           have HL209_0 := n5_
           have HL212_0 := n6_
           have HO217 := n7_
           have HO237 := n8_
           have HO240 := n9_
           have HO243 := n10_
           have BK183 := n11_
           have BK211 := n12_
           have HK := n13_
           have HB := n14_
           clear n0_ n1_ n2_ n3_ n4_ n5_ n6_ n7_ n8_ n9_ n10_ n11_ n12_ n13_ n14_
           clear hb ho94
           refine hK.out _ _ ⟨(blk_cell BK211.out 0).trans rfl, (blk_cell BK211.out 1).trans rfl⟩ (fun hHeld => ?_)
           clear hK K
           refine norm_ (a' := ?_) ?_ ?_
           rotate_left
           ·
            show Act.put _ (some 78) _ = _
            simp only [Act.put, List.setIfInBounds_toArray, List.set_cons_zero, List.set_cons_succ, i64_w, i32_w]
            rfl
           exact norm_ (by simp only [putAll, Act.put, List.setIfInBounds_toArray, List.set_cons_zero, List.set_cons_succ]) (hCont (.slice Ao92 y235.length co92, v239, v242) _ ⟨hHeld, (by exact vx (Kd.V_mono HL194_0.out (fun _ hk => ⟨hk.1.1.1, ⟨hk.1.1.2.2.2.2.2.1, ⟨hk.1.2, ⟨hk.2, ⟨hk.1.1.2.2.2.2.1, ⟨hk.1.1.2.1, ⟨hk.1.1.2.2.1, ⟨hk.1.1.2.2.2.1, ⟨hk.1.1.2.2.2.2.2.2.1, hk.1.1.2.2.2.2.2.2.2⟩⟩⟩⟩⟩⟩⟩⟩⟩))), (by exact vx (Kd.V_mono HL209_0.out (fun _ hk => ⟨hk.1.1.1, ⟨hk.1.1.2.2.2.2.2.1, ⟨hk.1.2, ⟨hk.2, ⟨hk.1.1.2.2.2.2.1, ⟨hk.1.1.2.1, ⟨hk.1.1.2.2.1, ⟨hk.1.1.2.2.2.1, ⟨hk.1.1.2.2.2.2.2.2.1, hk.1.1.2.2.2.2.2.2.2⟩⟩⟩⟩⟩⟩⟩⟩⟩))), (by exact vx (Kd.V_mono HL212_0.out (fun _ hk => ⟨hk.1.1.1, ⟨hk.1.1.2.2.2.2.2.1, ⟨hk.1.2, ⟨hk.2, ⟨hk.1.1.2.2.2.2.1, ⟨hk.1.1.2.1, ⟨hk.1.1.2.2.1, ⟨hk.1.1.2.2.2.1, ⟨hk.1.1.2.2.2.2.2.2.1, hk.1.1.2.2.2.2.2.2.2⟩⟩⟩⟩⟩⟩⟩⟩⟩))), (by exact vx (Kd.V_mono HO217.out (fun _ hk => ⟨hk.1.1.1, ⟨hk.1.1.2.2.2.2.2.1, ⟨hk.1.2, ⟨hk.2, ⟨hk.1.1.2.2.2.2.1, ⟨hk.1.1.2.1, ⟨hk.1.1.2.2.1, ⟨hk.1.1.2.2.2.1, ⟨hk.1.1.2.2.2.2.2.2.1, hk.1.1.2.2.2.2.2.2.2⟩⟩⟩⟩⟩⟩⟩⟩⟩))), (rx HO237.out), (rx HO240.out), (by exact rx (Kd.R_mono HO243.out (fun _ hk => ⟨hk.1.1.1.1, ⟨hk.1.2, ⟨hk.1.1.2, hk.2⟩⟩⟩))), (by exact rx (Kd.R_mono HO_10.out (fun _ hk => ⟨hk.1.1, ⟨hk.2, ⟨hk.1.2.1, hk.1.2.2⟩⟩⟩))), (by exact nx (Kd.N_mono HO_2.out (fun _ hk => ⟨hk.1.1.1, ⟨hk.1.1.2.2.2.2.1, ⟨hk.1.2, ⟨hk.2, ⟨hk.1.1.2.2.2.1, ⟨hk.1.1.2.1, ⟨hk.1.1.2.2.1, ⟨hk.1.1.2.2.2.2.2.1, hk.1.1.2.2.2.2.2.2⟩⟩⟩⟩⟩⟩⟩⟩))), (rx HO_7.out), (by exact rx (Kd.R_mono HO_9.out (fun _ hk => ⟨hk.1.1, ⟨hk.2, ⟨hk.1.2.1, hk.1.2.2⟩⟩⟩))), (bx BK183.out), (bx BK211.out), lk, lb⟩)
          ·
           skip
           refine Kd.R_lit_step k51 _ 51 ?hg (N := 78) ?hd (xs := ([(⟨(rd_T51 (rd_L5 x2_2 (rd x8_1 (ji14))) 0).f0, false⟩ : S51)] : List (S51))) (inner := [.int .i64 ((rd_T51 (rd_L5 x2_2 (rd x8_1 (ji14))) 0).f0), .bool false]) (ok := fun _ => True) (okp := fun _ => True) ?hr ?hp (fun _ hk => hk) trivial (Below.refl _ _) (Nat.le_refl _) (by simp) ?_; (case hd => rfl); (case hg => rfl); (case hr => first | (go_simp; done) | (go_simp; rfl)); (case hp => exact (Reps.c2 (show Kd.M k51 _ _ _ (⟨(rd_T51 (rd_L5 x2_2 (rd x8_1 (ji14))) 0).f0, false⟩ : S51) [.int .i64 ((rd_T51 (rd_L5 x2_2 (rd x8_1 (ji14))) 0).f0), .bool false] from (k51_mkM _ _ _ (⟨(rd_T51 (rd_L5 x2_2 (rd x8_1 (ji14))) 0).f0, false⟩ : S51) )) (Reps.none _ _)))
           intro v242 w91 ho92 hb hg_ hnew_
           clear hg_ hnew_
           (first | rw [← Ny241.out] at ho92 | (simp only [Int.reduceToNat] at ho92; rw [← Ny241.out] at ho92))
           have n0_ := ak (Kd.N_elder' (nx HO_2.out) (Kd.R_base ho92) hb)
           have n1_ := ak (Kd.R_below (rx HO_7.out) hb)
           have n2_ := ak (Kd.R_below (rx HO_8.out) hb)
           have n3_ := ak (Kd.R_elder' (rx HO_9.out) (Kd.R_base ho92) hb)
           have n4_ := ak (Kd.R_elder' (rx HO_10.out) (Kd.R_base ho92) hb)
           have n5_ := ak (Kd.V_elder' (vx HL194_0.out) (Kd.R_base ho92) hb)
           have n6_ := ak (Kd.V_elder' (vx HL209_0.out) (Kd.R_base ho92) hb)
           have n7_ := ak (Kd.V_elder' (vx HL212_0.out) (Kd.R_base ho92) hb)
           have n8_ := ak (Kd.V_elder' (vx HO217.out) (Kd.R_base ho92) hb)
           have n9_ := ak (Kd.R_below (rx HO237.out) hb)
           have n10_ := ak (Kd.R_lower (Kd.R_newB (Kd.R_new' (Kd.R_new' (Kd.R_newM (M := fun k_ => (P2_ k_ ∨ w.heap.size ≤ k_)) ho92 (by first | exact HK.out.1 | exact (show Kept w _ (fun k_ => P2_ k_) from lk).1) (fun k_ h_ => .inr h_)) (Kd.R_lt (rx HO_9.out))) (Kd.R_lt (rx HO_10.out))) (g := gb211) (o := .cells #[.int .i64 ((rd_T51 (rd_L5 x2_2 (rd x8_1 (ji14))) 0).f0), .bool false] 51 (0, 0)) (bx BK211.out)) (below_size lb))
           have n11_ := ak (blk_below (bx BK183.out) hb)
           have n12_ := ak (blk_below (bx BK211.out) hb)
           have n13_ := ak (Kept.below (S := (fun k_ => P2_ k_)) lk hb)
           have n14_ := ak (below_step lb hb)
           clear HO_2
           clear HO_7
           clear HO_8
           clear HO_9
           clear HO_10
           clear HL194_0
           clear HL209_0
           clear HL212_0
           clear HO217
           clear HO237
           clear BK183
           clear BK211
           clear HK
           clear HB
           have HO_2 := n0_
           have HO_7 := n1_
           have HO_8 := n2_
           have HO_9 := n3_
           have HO_10 := n4_
           have HL194_0 := n5_
           have HL209_0 := n6_
           have HL212_0 := n7_
           have HO217 := n8_
           have HO237 := n9_
           have HO243 := n10_
           have BK183 := n11_
           have BK211 := n12_
           have HK := n13_
           have HB := n14_
           clear n0_ n1_ n2_ n3_ n4_ n5_ n6_ n7_ n8_ n9_ n10_ n11_ n12_ n13_ n14_
           clear hb ho92
           obtain ⟨Ao94, co94, eo94⟩ := Kd.R_slice HO237.out
           (first | subst eo94 | (injection eo94 with f1_ f2_ f3_; have f4_ := f1_.symm; have f5_ := f3_.symm; clear f1_ f2_ f3_; subst f4_; subst f5_))
           refine hK.out _ _ ⟨(blk_cell BK211.out 0).trans rfl, (blk_cell BK211.out 1).trans rfl⟩ (fun hHeld => ?_)
           clear hK K
           refine norm_ (a' := ?_) ?_ ?_
           rotate_left
           ·
            show Act.put _ (some 78) _ = _
            simp only [Act.put, List.setIfInBounds_toArray, List.set_cons_zero, List.set_cons_succ, i64_w, i32_w]
            rfl
           refine one_ (i := 3) (N := some 75) #[true, true, true, true, true, true, true, false, false, false] rfl rfl (one_of HT_.out (by kernel_rfl)) (by decide) (fun K hK => ?_)
           refine Kd.R_append_rows_step (Kd.int .i64) (w0 := w0) w0.heap.size (by rfl) (.tmp 72) (.tmp 74) 62 3 (.int .i64 0) 8 rfl Try.underlying62 info3 rfl (by decide) (by omega) (.slice Ao86 x8_2.length co86) x8_2 y235 _ _ _ (fun k_ => (P2_ k_ ∨ w.heap.size ≤ k_) ∧ some k_ ≠ (.slice Ao94 y235.length co94 : Value).ownBlock) (fun _ => False) rfl rfl ?aO ?aR (fun _ _ h => h) (fun _ h => h.elim) ?aF ?aB ?aS ?aL ?_
           (case aR => repeat (first | exact (Kd.R_reads' HO237.out).2.2 | (with_reducible refine Kd.C_alloc ?_ _) | (with_reducible refine Kd.C_drewN ?_ _) | (with_reducible refine Kd.C_drew ?_)))
           (case aB => exact lb)
           (case aF => exact (fun k_ hk => ⟨(.inr (Nat.le_trans (by first | exact HK.out.1 | exact (show Kept w _ (fun k_ => P2_ k_) from lk).1) hk)), Kd.fresh' (Kd.R_lt (rx HO237.out)) k_ hk⟩))
           (case aO => exact (rx HO_8.out))
           (case aS => exact (below_size lb))
           (case aL => have := LMc70.out; omega)
           intro v239 w93 ho hb hg hat
           rw [← Ny238.out] at ho
           have n0_ := ak (Kd.N_afterv (ok := (fun k_ => (P2_ k_ ∨ w.heap.size ≤ k_) ∧ some k_ ≠ (.slice (some ⟨go38, 0, none⟩) x7_2.length co81 : Value).ownBlock ∧ some k_ ≠ (.slice Ao87 x9_2.length co87 : Value).ownBlock ∧ some k_ ≠ (u10 : Value).ownBlock ∧ some k_ ≠ (.slice Ao94 y235.length co94 : Value).ownBlock ∧ some k_ ≠ (v242 : Value).ownBlock ∧ k_ ≠ gb183 ∧ k_ ≠ gb211)) (by exact nx (Kd.N_mono HO_2.out (fun _ hk => ⟨⟨hk.1.1.1.1, ⟨hk.1.1.2, ⟨hk.1.1.1.2.2.1, ⟨hk.1.1.1.2.2.2.1, ⟨hk.1.2, ⟨hk.2, ⟨hk.1.1.1.2.2.2.2.1, hk.1.1.1.2.2.2.2.2⟩⟩⟩⟩⟩⟩⟩, hk.1.1.1.2.1⟩))) hg hat)
           have n1_ := ak (Kd.R_over' (rx HO_7.out) (Kd.R_typed (rx HO_8.out)) (by decide) hg)
           have n2_ := ak (Kd.R_over' (rx HO_9.out) (Kd.R_typed (rx HO_8.out)) (by decide) hg)
           have n3_ := ak (Kd.R_over' (rx HO_10.out) (Kd.R_typed (rx HO_8.out)) (by decide) hg)
           have n4_ := ak (blk_grown (bx BK183.out) hg (Kd.R_ne HO_8.out BK183.out (by decide)))
           have n5_ := ak (Kd.V_afterv (ok := (fun k_ => (P2_ k_ ∨ w.heap.size ≤ k_) ∧ some k_ ≠ (.slice (some ⟨go23, 0, none⟩) x2_2.length co72 : Value).ownBlock ∧ some k_ ≠ (.slice (some ⟨go38, 0, none⟩) x7_2.length co81 : Value).ownBlock ∧ some k_ ≠ (.slice Ao87 x9_2.length co87 : Value).ownBlock ∧ some k_ ≠ (u10 : Value).ownBlock ∧ some k_ ≠ (.slice Ao94 y235.length co94 : Value).ownBlock ∧ some k_ ≠ (v242 : Value).ownBlock ∧ k_ ≠ gb183 ∧ k_ ≠ gb211)) (by exact vx (Kd.V_mono HL194_0.out (fun _ hk => ⟨⟨hk.1.1.1.1, ⟨hk.1.1.1.2.1, ⟨hk.1.1.2, ⟨hk.1.1.1.2.2.2.1, ⟨hk.1.1.1.2.2.2.2.1, ⟨hk.1.2, ⟨hk.2, ⟨hk.1.1.1.2.2.2.2.2.1, hk.1.1.1.2.2.2.2.2.2⟩⟩⟩⟩⟩⟩⟩⟩, hk.1.1.1.2.2.1⟩))) hg hat)
           have n6_ := ak (Kd.V_afterv (ok := (fun k_ => (P2_ k_ ∨ w.heap.size ≤ k_) ∧ some k_ ≠ (.slice (some ⟨go23, 0, none⟩) x2_2.length co72 : Value).ownBlock ∧ some k_ ≠ (.slice (some ⟨go38, 0, none⟩) x7_2.length co81 : Value).ownBlock ∧ some k_ ≠ (.slice Ao87 x9_2.length co87 : Value).ownBlock ∧ some k_ ≠ (u10 : Value).ownBlock ∧ some k_ ≠ (.slice Ao94 y235.length co94 : Value).ownBlock ∧ some k_ ≠ (v242 : Value).ownBlock ∧ k_ ≠ gb183 ∧ k_ ≠ gb211)) (by exact vx (Kd.V_mono HL209_0.out (fun _ hk => ⟨⟨hk.1.1.1.1, ⟨hk.1.1.1.2.1, ⟨hk.1.1.2, ⟨hk.1.1.1.2.2.2.1, ⟨hk.1.1.1.2.2.2.2.1, ⟨hk.1.2, ⟨hk.2, ⟨hk.1.1.1.2.2.2.2.2.1, hk.1.1.1.2.2.2.2.2.2⟩⟩⟩⟩⟩⟩⟩⟩, hk.1.1.1.2.2.1⟩))) hg hat)
           have n7_ := ak (blk_grown (bx BK211.out) hg (Kd.R_ne HO_8.out BK211.out (by decide)))
           have n8_ := ak (Kd.V_afterv (ok := (fun k_ => (P2_ k_ ∨ w.heap.size ≤ k_) ∧ some k_ ≠ (.slice (some ⟨go23, 0, none⟩) x2_2.length co72 : Value).ownBlock ∧ some k_ ≠ (.slice (some ⟨go38, 0, none⟩) x7_2.length co81 : Value).ownBlock ∧ some k_ ≠ (.slice Ao87 x9_2.length co87 : Value).ownBlock ∧ some k_ ≠ (u10 : Value).ownBlock ∧ some k_ ≠ (.slice Ao94 y235.length co94 : Value).ownBlock ∧ some k_ ≠ (v242 : Value).ownBlock ∧ k_ ≠ gb183 ∧ k_ ≠ gb211)) (by exact vx (Kd.V_mono HL212_0.out (fun _ hk => ⟨⟨hk.1.1.1.1, ⟨hk.1.1.1.2.1, ⟨hk.1.1.2, ⟨hk.1.1.1.2.2.2.1, ⟨hk.1.1.1.2.2.2.2.1, ⟨hk.1.2, ⟨hk.2, ⟨hk.1.1.1.2.2.2.2.2.1, hk.1.1.1.2.2.2.2.2.2⟩⟩⟩⟩⟩⟩⟩⟩, hk.1.1.1.2.2.1⟩))) hg hat)
           have n9_ := ak (Kd.V_afterv (ok := (fun k_ => (P2_ k_ ∨ w.heap.size ≤ k_) ∧ some k_ ≠ (.slice (some ⟨go23, 0, none⟩) x2_2.length co72 : Value).ownBlock ∧ some k_ ≠ (.slice (some ⟨go38, 0, none⟩) x7_2.length co81 : Value).ownBlock ∧ some k_ ≠ (.slice Ao87 x9_2.length co87 : Value).ownBlock ∧ some k_ ≠ (u10 : Value).ownBlock ∧ some k_ ≠ (.slice Ao94 y235.length co94 : Value).ownBlock ∧ some k_ ≠ (v242 : Value).ownBlock ∧ k_ ≠ gb183 ∧ k_ ≠ gb211)) (by exact vx (Kd.V_mono HO217.out (fun _ hk => ⟨⟨hk.1.1.1.1, ⟨hk.1.1.1.2.1, ⟨hk.1.1.2, ⟨hk.1.1.1.2.2.2.1, ⟨hk.1.1.1.2.2.2.2.1, ⟨hk.1.2, ⟨hk.2, ⟨hk.1.1.1.2.2.2.2.2.1, hk.1.1.1.2.2.2.2.2.2⟩⟩⟩⟩⟩⟩⟩⟩, hk.1.1.1.2.2.1⟩))) hg hat)
           have n10_ := ak (Kd.R_after (ok := (fun k_ => (P2_ k_ ∨ w.heap.size ≤ k_))) (by exact rx (Kd.R_mono HO237.out (fun _ hk => ⟨hk.1.1, hk.2⟩))) hg hat)
           have n11_ := ak (Kd.R_over' (rx HO243.out) (Kd.R_typed (rx HO_8.out)) (by decide) hg)
           have n12_ := ak (hb)
           have n13_ := ak (Kept.of_grown (S := (fun k_ => P2_ k_)) hg lk (fun k_ e_ => (HO_8.out.1 k_ e_).1))
           have n14_ := ak (ho)
           clear HO_2
           clear HO_7
           clear HO_9
           clear HO_10
           clear BK183
           clear HL194_0
           clear HL209_0
           clear BK211
           clear HL212_0
           clear HO217
           clear HO237
           clear HO243
           clear HB
           clear HK
           clear HO_8
           have HO_2 := n0_
           have HO_7 := n1_
           have HO_9 := n2_
           have HO_10 := n3_
           have BK183 := n4_
           have HL194_0 := n5_
           have HL209_0 := n6_
           have BK211 := n7_
           have HL212_0 := n8_
           have HO217 := n9_
           have HO237 := n10_
           have HO243 := n11_
           have HB := n12_
           have HK := n13_
           have HO240 := n14_
           clear n0_ n1_ n2_ n3_ n4_ n5_ n6_ n7_ n8_ n9_ n10_ n11_ n12_ n13_ n14_
           clear ho hb hg hat
           refine hK.out _ _ ⟨(blk_cell BK211.out 0).trans rfl, (blk_cell BK211.out 1).trans rfl⟩ (fun hHeld => ?_)
           clear hK K
           refine norm_ (a' := ?_) ?_ ?_
           rotate_left
           ·
            show Act.put _ (some 75) _ = _
            simp only [Act.put, List.setIfInBounds_toArray, List.set_cons_zero, List.set_cons_succ, i64_w, i32_w]
            rfl
           exact norm_ (by simp only [putAll, Act.put, List.setIfInBounds_toArray, List.set_cons_zero, List.set_cons_succ]) (hCont (.slice Ao94 y235.length co94, v239, v242) _ ⟨hHeld, (by exact vx (Kd.V_mono HL194_0.out (fun _ hk => ⟨hk.1.1, ⟨hk.1.2.2.2.2.2.1, ⟨hk.2, ⟨hk.1.2.2.2.2.2.2.1, ⟨hk.1.2.2.2.2.1, ⟨hk.1.2.1, ⟨hk.1.2.2.1, ⟨hk.1.2.2.2.1, ⟨hk.1.2.2.2.2.2.2.2.1, hk.1.2.2.2.2.2.2.2.2⟩⟩⟩⟩⟩⟩⟩⟩⟩))), (by exact vx (Kd.V_mono HL209_0.out (fun _ hk => ⟨hk.1.1, ⟨hk.1.2.2.2.2.2.1, ⟨hk.2, ⟨hk.1.2.2.2.2.2.2.1, ⟨hk.1.2.2.2.2.1, ⟨hk.1.2.1, ⟨hk.1.2.2.1, ⟨hk.1.2.2.2.1, ⟨hk.1.2.2.2.2.2.2.2.1, hk.1.2.2.2.2.2.2.2.2⟩⟩⟩⟩⟩⟩⟩⟩⟩))), (by exact vx (Kd.V_mono HL212_0.out (fun _ hk => ⟨hk.1.1, ⟨hk.1.2.2.2.2.2.1, ⟨hk.2, ⟨hk.1.2.2.2.2.2.2.1, ⟨hk.1.2.2.2.2.1, ⟨hk.1.2.1, ⟨hk.1.2.2.1, ⟨hk.1.2.2.2.1, ⟨hk.1.2.2.2.2.2.2.2.1, hk.1.2.2.2.2.2.2.2.2⟩⟩⟩⟩⟩⟩⟩⟩⟩))), (by exact vx (Kd.V_mono HO217.out (fun _ hk => ⟨hk.1.1, ⟨hk.1.2.2.2.2.2.1, ⟨hk.2, ⟨hk.1.2.2.2.2.2.2.1, ⟨hk.1.2.2.2.2.1, ⟨hk.1.2.1, ⟨hk.1.2.2.1, ⟨hk.1.2.2.2.1, ⟨hk.1.2.2.2.2.2.2.2.1, hk.1.2.2.2.2.2.2.2.2⟩⟩⟩⟩⟩⟩⟩⟩⟩))), (rx HO237.out), (rx HO240.out), (by exact rx (Kd.R_mono HO243.out (fun _ hk => ⟨hk.1.1.1.1, ⟨hk.1.2, ⟨hk.1.1.2, hk.2⟩⟩⟩))), (by exact rx (Kd.R_mono HO_10.out (fun _ hk => ⟨hk.1.1, ⟨hk.2, ⟨hk.1.2.1, hk.1.2.2⟩⟩⟩))), (by exact nx (Kd.N_mono HO_2.out (fun _ hk => ⟨hk.1.1, ⟨hk.1.2.2.2.2.1, ⟨hk.2, ⟨hk.1.2.2.2.2.2.1, ⟨hk.1.2.2.2.1, ⟨hk.1.2.1, ⟨hk.1.2.2.1, ⟨hk.1.2.2.2.2.2.2.1, hk.1.2.2.2.2.2.2.2⟩⟩⟩⟩⟩⟩⟩⟩))), (rx HO_7.out), (by exact rx (Kd.R_mono HO_9.out (fun _ hk => ⟨hk.1.1, ⟨hk.2, ⟨hk.1.2.1, hk.1.2.2⟩⟩⟩))), (bx BK183.out), (bx BK211.out), lk, lb⟩)
         ·
          skip
          refine Kd.R_lit_step k51 _ 51 ?hg (N := 78) ?hd (xs := ([(⟨(rd_T51 (rd_L5 x2_2 (rd x8_1 (ji14))) 0).f0, false⟩ : S51)] : List (S51))) (inner := [.int .i64 ((rd_T51 (rd_L5 x2_2 (rd x8_1 (ji14))) 0).f0), .bool false]) (ok := fun _ => True) (okp := fun _ => True) ?hr ?hp (fun _ hk => hk) trivial (Below.refl _ _) (Nat.le_refl _) (by simp) ?_; (case hd => rfl); (case hg => rfl); (case hr => first | (go_simp; done) | (go_simp; rfl)); (case hp => exact (Reps.c2 (show Kd.M k51 _ _ _ (⟨(rd_T51 (rd_L5 x2_2 (rd x8_1 (ji14))) 0).f0, false⟩ : S51) [.int .i64 ((rd_T51 (rd_L5 x2_2 (rd x8_1 (ji14))) 0).f0), .bool false] from (k51_mkM _ _ _ (⟨(rd_T51 (rd_L5 x2_2 (rd x8_1 (ji14))) 0).f0, false⟩ : S51) )) (Reps.none _ _)))
          intro v242 w89 ho90 hb hg_ hnew_
          clear hg_ hnew_
          (first | rw [← Ny241.out] at ho90 | (simp only [Int.reduceToNat] at ho90; rw [← Ny241.out] at ho90))
          have n0_ := ak (Kd.N_elder' (nx HO_2.out) (Kd.R_base ho90) hb)
          have n1_ := ak (Kd.R_below (rx HO_7.out) hb)
          have n2_ := ak (Kd.R_below (rx HO_8.out) hb)
          have n3_ := ak (Kd.R_elder' (rx HO_9.out) (Kd.R_base ho90) hb)
          have n4_ := ak (Kd.R_elder' (rx HO_10.out) (Kd.R_base ho90) hb)
          have n5_ := ak (Kd.V_elder' (vx HL194_0.out) (Kd.R_base ho90) hb)
          have n6_ := ak (Kd.V_elder' (vx HL209_0.out) (Kd.R_base ho90) hb)
          have n7_ := ak (Kd.V_elder' (vx HL212_0.out) (Kd.R_base ho90) hb)
          have n8_ := ak (Kd.V_elder' (vx HO217.out) (Kd.R_base ho90) hb)
          have n9_ := ak (Kd.R_lower (Kd.R_newB (Kd.R_new' (Kd.R_new' (Kd.R_newM (M := fun k_ => (P2_ k_ ∨ w.heap.size ≤ k_)) ho90 (by first | exact HK.out.1 | exact (show Kept w _ (fun k_ => P2_ k_) from lk).1) (fun k_ h_ => .inr h_)) (Kd.R_lt (rx HO_9.out))) (Kd.R_lt (rx HO_10.out))) (g := gb211) (o := .cells #[.int .i64 ((rd_T51 (rd_L5 x2_2 (rd x8_1 (ji14))) 0).f0), .bool false] 51 (0, 0)) (bx BK211.out)) (below_size lb))
          have n10_ := ak (blk_below (bx BK183.out) hb)
          have n11_ := ak (blk_below (bx BK211.out) hb)
          have n12_ := ak (Kept.below (S := (fun k_ => P2_ k_)) lk hb)
          have n13_ := ak (below_step lb hb)
          clear HO_2
          clear HO_7
          clear HO_8
          clear HO_9
          clear HO_10
          clear HL194_0
          clear HL209_0
          clear HL212_0
          clear HO217
          clear BK183
          clear BK211
          clear HK
          clear HB
          have HO_2 := n0_
          have HO_7 := n1_
          have HO_8 := n2_
          have HO_9 := n3_
          have HO_10 := n4_
          have HL194_0 := n5_
          have HL209_0 := n6_
          have HL212_0 := n7_
          have HO217 := n8_
          have HO243 := n9_
          have BK183 := n10_
          have BK211 := n11_
          have HK := n12_
          have HB := n13_
          clear n0_ n1_ n2_ n3_ n4_ n5_ n6_ n7_ n8_ n9_ n10_ n11_ n12_ n13_
          clear hb ho90
          refine hK.out _ _ ⟨(blk_cell BK211.out 0).trans rfl, (blk_cell BK211.out 1).trans rfl⟩ (fun hHeld => ?_)
          clear hK K
          refine norm_ (a' := ?_) ?_ ?_
          rotate_left
          ·
           show Act.put _ (some 78) _ = _
           simp only [Act.put, List.setIfInBounds_toArray, List.set_cons_zero, List.set_cons_succ, i64_w, i32_w]
           rfl
          refine one_ (i := 2) (N := some 74) #[true, true, true, false, true, true, true, false, false, false] rfl rfl (one_of HT_.out (by kernel_rfl)) (by decide) (fun K hK => ?_)
          refine Kd.R_lit_step (Kd.int .i64) _ 3 ?hg (N := 74) ?hd (xs := ([(rd_T45 l0_1 ((rd_T51 (rd_L5 x2_2 (rd x8_1 (ji14))) 0).f0)).f1] : List Int)) (inner := [.int .i64 ((rd_T45 l0_1 ((rd_T51 (rd_L5 x2_2 (rd x8_1 (ji14))) 0).f0)).f1)]) (ok := fun _ => True) (okp := fun _ => True) ?hr ?hp (fun _ hk => hk) trivial (Below.refl _ _) (Nat.le_refl _) (by simp) ?_; (case hd => rfl); (case hg => rfl); (case hr => first | (go_simp; done) | (go_simp; rfl)); (case hp => exact (Reps.one (show Kd.M (Kd.int .i64) _ _ _ ((rd_T45 l0_1 ((rd_T51 (rd_L5 x2_2 (rd x8_1 (ji14))) 0).f0)).f1) [.int .i64 ((rd_T45 l0_1 ((rd_T51 (rd_L5 x2_2 (rd x8_1 (ji14))) 0).f0)).f1)] from rfl) (Reps.none _ _)))
          intro v236 w91 ho92 hb hg_ hnew_
          clear hg_ hnew_
          (first | rw [← Ny235.out] at ho92 | (simp only [Int.reduceToNat] at ho92; rw [← Ny235.out] at ho92))
          have n0_ := ak (Kd.N_elder' (nx HO_2.out) (Kd.R_base ho92) hb)
          have n1_ := ak (Kd.R_below (rx HO_7.out) hb)
          have n2_ := ak (Kd.R_elder' (rx HO_8.out) (Kd.R_base ho92) hb)
          have n3_ := ak (Kd.R_below (rx HO_9.out) hb)
          have n4_ := ak (Kd.R_below (rx HO_10.out) hb)
          have n5_ := ak (Kd.V_elder' (vx HL194_0.out) (Kd.R_base ho92) hb)
          have n6_ := ak (Kd.V_elder' (vx HL209_0.out) (Kd.R_base ho92) hb)
          have n7_ := ak (Kd.V_elder' (vx HL212_0.out) (Kd.R_base ho92) hb)
          have n8_ := ak (Kd.V_elder' (vx HO217.out) (Kd.R_base ho92) hb)
          have n9_ := ak (Kd.R_below (rx HO243.out) hb)
          have n10_ := ak (Kd.R_lower (Kd.R_new' (Kd.R_newM (M := fun k_ => (P2_ k_ ∨ w.heap.size ≤ k_)) ho92 (by first | exact HK.out.1 | exact (show Kept w _ (fun k_ => P2_ k_) from lk).1) (fun k_ h_ => .inr h_)) (Kd.R_lt (rx HO_8.out))) (below_size lb))
          have n11_ := ak (blk_below (bx BK183.out) hb)
          have n12_ := ak (blk_below (bx BK211.out) hb)
          have n13_ := ak (Kept.below (S := (fun k_ => P2_ k_)) lk hb)
          have n14_ := ak (below_step lb hb)
          clear HO_2
          clear HO_7
          clear HO_8
          clear HO_9
          clear HO_10
          clear HL194_0
          clear HL209_0
          clear HL212_0
          clear HO217
          clear HO243
          clear BK183
          clear BK211
          clear HK
          clear HB
          have HO_2 := n0_
          have HO_7 := n1_
          have HO_8 := n2_
          have HO_9 := n3_
          have HO_10 := n4_
          have HL194_0 := n5_
          have HL209_0 := n6_
          have HL212_0 := n7_
          have HO217 := n8_
          have HO243 := n9_
          have HO237 := n10_
          have BK183 := n11_
          have BK211 := n12_
          have HK := n13_
          have HB := n14_
          clear n0_ n1_ n2_ n3_ n4_ n5_ n6_ n7_ n8_ n9_ n10_ n11_ n12_ n13_ n14_
          clear hb ho92
          obtain ⟨Ao94, co94, eo94⟩ := Kd.R_slice HO237.out
          (first | subst eo94 | (injection eo94 with f1_ f2_ f3_; have f4_ := f1_.symm; have f5_ := f3_.symm; clear f1_ f2_ f3_; subst f4_; subst f5_))
          refine hK.out _ _ ⟨(blk_cell BK211.out 0).trans rfl, (blk_cell BK211.out 1).trans rfl⟩ (fun hHeld => ?_)
          clear hK K
          refine norm_ (a' := ?_) ?_ ?_
          rotate_left
          ·
           show Act.put _ (some 74) _ = _
           simp only [Act.put, List.setIfInBounds_toArray, List.set_cons_zero, List.set_cons_succ, i64_w, i32_w]
           rfl
          refine one_ (i := 3) (N := some 75) #[true, true, true, true, true, true, true, false, false, false] rfl rfl (one_of HT_.out (by kernel_rfl)) (by decide) (fun K hK => ?_)
          refine Kd.R_append_rows_step (Kd.int .i64) (w0 := w0) w0.heap.size (by rfl) (.tmp 72) (.tmp 74) 62 3 (.int .i64 0) 8 rfl Try.underlying62 info3 rfl (by decide) (by omega) (.slice Ao86 x8_2.length co86) x8_2 y235 _ _ _ (fun k_ => (P2_ k_ ∨ w.heap.size ≤ k_) ∧ some k_ ≠ (.slice Ao94 y235.length co94 : Value).ownBlock) (fun _ => False) rfl rfl ?aO ?aR (fun _ _ h => h) (fun _ h => h.elim) ?aF ?aB ?aS ?aL ?_
          (case aR => repeat (first | exact (Kd.R_reads' HO237.out).2.2 | (with_reducible refine Kd.C_alloc ?_ _) | (with_reducible refine Kd.C_drewN ?_ _) | (with_reducible refine Kd.C_drew ?_)))
          (case aB => exact lb)
          (case aF => exact (fun k_ hk => ⟨(.inr (Nat.le_trans (by first | exact HK.out.1 | exact (show Kept w _ (fun k_ => P2_ k_) from lk).1) hk)), Kd.fresh' (Kd.R_lt (rx HO237.out)) k_ hk⟩))
          (case aO => exact (rx HO_8.out))
          (case aS => exact (below_size lb))
          (case aL => have := LMc70.out; omega)
          intro v239 w93 ho hb hg hat
          rw [← Ny238.out] at ho
          have n0_ := ak (Kd.N_afterv (ok := (fun k_ => (P2_ k_ ∨ w.heap.size ≤ k_) ∧ some k_ ≠ (.slice (some ⟨go38, 0, none⟩) x7_2.length co81 : Value).ownBlock ∧ some k_ ≠ (.slice Ao87 x9_2.length co87 : Value).ownBlock ∧ some k_ ≠ (u10 : Value).ownBlock ∧ some k_ ≠ (v242 : Value).ownBlock ∧ some k_ ≠ (.slice Ao94 y235.length co94 : Value).ownBlock ∧ k_ ≠ gb183 ∧ k_ ≠ gb211)) (by exact nx (Kd.N_mono HO_2.out (fun _ hk => ⟨⟨hk.1.1.1.1, ⟨hk.1.1.2, ⟨hk.1.1.1.2.2.1, ⟨hk.1.1.1.2.2.2.1, ⟨hk.1.2, ⟨hk.2, ⟨hk.1.1.1.2.2.2.2.1, hk.1.1.1.2.2.2.2.2⟩⟩⟩⟩⟩⟩⟩, hk.1.1.1.2.1⟩))) hg hat)
          have n1_ := ak (Kd.R_over' (rx HO_7.out) (Kd.R_typed (rx HO_8.out)) (by decide) hg)
          have n2_ := ak (Kd.R_over' (rx HO_9.out) (Kd.R_typed (rx HO_8.out)) (by decide) hg)
          have n3_ := ak (Kd.R_over' (rx HO_10.out) (Kd.R_typed (rx HO_8.out)) (by decide) hg)
          have n4_ := ak (blk_grown (bx BK183.out) hg (Kd.R_ne HO_8.out BK183.out (by decide)))
          have n5_ := ak (Kd.V_afterv (ok := (fun k_ => (P2_ k_ ∨ w.heap.size ≤ k_) ∧ some k_ ≠ (.slice (some ⟨go23, 0, none⟩) x2_2.length co72 : Value).ownBlock ∧ some k_ ≠ (.slice (some ⟨go38, 0, none⟩) x7_2.length co81 : Value).ownBlock ∧ some k_ ≠ (.slice Ao87 x9_2.length co87 : Value).ownBlock ∧ some k_ ≠ (u10 : Value).ownBlock ∧ some k_ ≠ (v242 : Value).ownBlock ∧ some k_ ≠ (.slice Ao94 y235.length co94 : Value).ownBlock ∧ k_ ≠ gb183 ∧ k_ ≠ gb211)) (by exact vx (Kd.V_mono HL194_0.out (fun _ hk => ⟨⟨hk.1.1.1.1, ⟨hk.1.1.1.2.1, ⟨hk.1.1.2, ⟨hk.1.1.1.2.2.2.1, ⟨hk.1.1.1.2.2.2.2.1, ⟨hk.1.2, ⟨hk.2, ⟨hk.1.1.1.2.2.2.2.2.1, hk.1.1.1.2.2.2.2.2.2⟩⟩⟩⟩⟩⟩⟩⟩, hk.1.1.1.2.2.1⟩))) hg hat)
          have n6_ := ak (Kd.V_afterv (ok := (fun k_ => (P2_ k_ ∨ w.heap.size ≤ k_) ∧ some k_ ≠ (.slice (some ⟨go23, 0, none⟩) x2_2.length co72 : Value).ownBlock ∧ some k_ ≠ (.slice (some ⟨go38, 0, none⟩) x7_2.length co81 : Value).ownBlock ∧ some k_ ≠ (.slice Ao87 x9_2.length co87 : Value).ownBlock ∧ some k_ ≠ (u10 : Value).ownBlock ∧ some k_ ≠ (v242 : Value).ownBlock ∧ some k_ ≠ (.slice Ao94 y235.length co94 : Value).ownBlock ∧ k_ ≠ gb183 ∧ k_ ≠ gb211)) (by exact vx (Kd.V_mono HL209_0.out (fun _ hk => ⟨⟨hk.1.1.1.1, ⟨hk.1.1.1.2.1, ⟨hk.1.1.2, ⟨hk.1.1.1.2.2.2.1, ⟨hk.1.1.1.2.2.2.2.1, ⟨hk.1.2, ⟨hk.2, ⟨hk.1.1.1.2.2.2.2.2.1, hk.1.1.1.2.2.2.2.2.2⟩⟩⟩⟩⟩⟩⟩⟩, hk.1.1.1.2.2.1⟩))) hg hat)
          have n7_ := ak (blk_grown (bx BK211.out) hg (Kd.R_ne HO_8.out BK211.out (by decide)))
          have n8_ := ak (Kd.V_afterv (ok := (fun k_ => (P2_ k_ ∨ w.heap.size ≤ k_) ∧ some k_ ≠ (.slice (some ⟨go23, 0, none⟩) x2_2.length co72 : Value).ownBlock ∧ some k_ ≠ (.slice (some ⟨go38, 0, none⟩) x7_2.length co81 : Value).ownBlock ∧ some k_ ≠ (.slice Ao87 x9_2.length co87 : Value).ownBlock ∧ some k_ ≠ (u10 : Value).ownBlock ∧ some k_ ≠ (v242 : Value).ownBlock ∧ some k_ ≠ (.slice Ao94 y235.length co94 : Value).ownBlock ∧ k_ ≠ gb183 ∧ k_ ≠ gb211)) (by exact vx (Kd.V_mono HL212_0.out (fun _ hk => ⟨⟨hk.1.1.1.1, ⟨hk.1.1.1.2.1, ⟨hk.1.1.2, ⟨hk.1.1.1.2.2.2.1, ⟨hk.1.1.1.2.2.2.2.1, ⟨hk.1.2, ⟨hk.2, ⟨hk.1.1.1.2.2.2.2.2.1, hk.1.1.1.2.2.2.2.2.2⟩⟩⟩⟩⟩⟩⟩⟩, hk.1.1.1.2.2.1⟩))) hg hat)
          have n9_ := ak (Kd.V_afterv (ok := (fun k_ => (P2_ k_ ∨ w.heap.size ≤ k_) ∧ some k_ ≠ (.slice (some ⟨go23, 0, none⟩) x2_2.length co72 : Value).ownBlock ∧ some k_ ≠ (.slice (some ⟨go38, 0, none⟩) x7_2.length co81 : Value).ownBlock ∧ some k_ ≠ (.slice Ao87 x9_2.length co87 : Value).ownBlock ∧ some k_ ≠ (u10 : Value).ownBlock ∧ some k_ ≠ (v242 : Value).ownBlock ∧ some k_ ≠ (.slice Ao94 y235.length co94 : Value).ownBlock ∧ k_ ≠ gb183 ∧ k_ ≠ gb211)) (by exact vx (Kd.V_mono HO217.out (fun _ hk => ⟨⟨hk.1.1.1.1, ⟨hk.1.1.1.2.1, ⟨hk.1.1.2, ⟨hk.1.1.1.2.2.2.1, ⟨hk.1.1.1.2.2.2.2.1, ⟨hk.1.2, ⟨hk.2, ⟨hk.1.1.1.2.2.2.2.2.1, hk.1.1.1.2.2.2.2.2.2⟩⟩⟩⟩⟩⟩⟩⟩, hk.1.1.1.2.2.1⟩))) hg hat)
          have n10_ := ak (Kd.R_over' (rx HO243.out) (Kd.R_typed (rx HO_8.out)) (by decide) hg)
          have n11_ := ak (Kd.R_after (ok := (fun k_ => (P2_ k_ ∨ w.heap.size ≤ k_))) (by exact rx (Kd.R_mono HO237.out (fun _ hk => ⟨hk.1.1, hk.2⟩))) hg hat)
          have n12_ := ak (hb)
          have n13_ := ak (Kept.of_grown (S := (fun k_ => P2_ k_)) hg lk (fun k_ e_ => (HO_8.out.1 k_ e_).1))
          have n14_ := ak (ho)
          clear HO_2
          clear HO_7
          clear HO_9
          clear HO_10
          clear BK183
          clear HL194_0
          clear HL209_0
          clear BK211
          clear HL212_0
          clear HO217
          clear HO243
          clear HO237
          clear HB
          clear HK
          clear HO_8
          have HO_2 := n0_
          have HO_7 := n1_
          have HO_9 := n2_
          have HO_10 := n3_
          have BK183 := n4_
          have HL194_0 := n5_
          have HL209_0 := n6_
          have BK211 := n7_
          have HL212_0 := n8_
          have HO217 := n9_
          have HO243 := n10_
          have HO237 := n11_
          have HB := n12_
          have HK := n13_
          have HO240 := n14_
          clear n0_ n1_ n2_ n3_ n4_ n5_ n6_ n7_ n8_ n9_ n10_ n11_ n12_ n13_ n14_
          clear ho hb hg hat
          refine hK.out _ _ ⟨(blk_cell BK211.out 0).trans rfl, (blk_cell BK211.out 1).trans rfl⟩ (fun hHeld => ?_)
          clear hK K
          refine norm_ (a' := ?_) ?_ ?_
          rotate_left
          ·
           show Act.put _ (some 75) _ = _
           simp only [Act.put, List.setIfInBounds_toArray, List.set_cons_zero, List.set_cons_succ, i64_w, i32_w]
           rfl
          exact norm_ (by simp only [putAll, Act.put, List.setIfInBounds_toArray, List.set_cons_zero, List.set_cons_succ]) (hCont (.slice Ao94 y235.length co94, v239, v242) _ ⟨hHeld, (by exact vx (Kd.V_mono HL194_0.out (fun _ hk => ⟨hk.1.1, ⟨hk.1.2.2.2.2.2.2.1, ⟨hk.2, ⟨hk.1.2.2.2.2.2.1, ⟨hk.1.2.2.2.2.1, ⟨hk.1.2.1, ⟨hk.1.2.2.1, ⟨hk.1.2.2.2.1, ⟨hk.1.2.2.2.2.2.2.2.1, hk.1.2.2.2.2.2.2.2.2⟩⟩⟩⟩⟩⟩⟩⟩⟩))), (by exact vx (Kd.V_mono HL209_0.out (fun _ hk => ⟨hk.1.1, ⟨hk.1.2.2.2.2.2.2.1, ⟨hk.2, ⟨hk.1.2.2.2.2.2.1, ⟨hk.1.2.2.2.2.1, ⟨hk.1.2.1, ⟨hk.1.2.2.1, ⟨hk.1.2.2.2.1, ⟨hk.1.2.2.2.2.2.2.2.1, hk.1.2.2.2.2.2.2.2.2⟩⟩⟩⟩⟩⟩⟩⟩⟩))), (by exact vx (Kd.V_mono HL212_0.out (fun _ hk => ⟨hk.1.1, ⟨hk.1.2.2.2.2.2.2.1, ⟨hk.2, ⟨hk.1.2.2.2.2.2.1, ⟨hk.1.2.2.2.2.1, ⟨hk.1.2.1, ⟨hk.1.2.2.1, ⟨hk.1.2.2.2.1, ⟨hk.1.2.2.2.2.2.2.2.1, hk.1.2.2.2.2.2.2.2.2⟩⟩⟩⟩⟩⟩⟩⟩⟩))), (by exact vx (Kd.V_mono HO217.out (fun _ hk => ⟨hk.1.1, ⟨hk.1.2.2.2.2.2.2.1, ⟨hk.2, ⟨hk.1.2.2.2.2.2.1, ⟨hk.1.2.2.2.2.1, ⟨hk.1.2.1, ⟨hk.1.2.2.1, ⟨hk.1.2.2.2.1, ⟨hk.1.2.2.2.2.2.2.2.1, hk.1.2.2.2.2.2.2.2.2⟩⟩⟩⟩⟩⟩⟩⟩⟩))), (rx HO237.out), (rx HO240.out), (by exact rx (Kd.R_mono HO243.out (fun _ hk => ⟨hk.1.1.1.1, ⟨hk.1.2, ⟨hk.1.1.2, hk.2⟩⟩⟩))), (by exact rx (Kd.R_mono HO_10.out (fun _ hk => ⟨hk.1.1, ⟨hk.2, ⟨hk.1.2.1, hk.1.2.2⟩⟩⟩))), (by exact nx (Kd.N_mono HO_2.out (fun _ hk => ⟨hk.1.1, ⟨hk.1.2.2.2.2.2.1, ⟨hk.2, ⟨hk.1.2.2.2.2.1, ⟨hk.1.2.2.2.1, ⟨hk.1.2.1, ⟨hk.1.2.2.1, ⟨hk.1.2.2.2.2.2.2.1, hk.1.2.2.2.2.2.2.2⟩⟩⟩⟩⟩⟩⟩⟩))), (rx HO_7.out), (by exact rx (Kd.R_mono HO_9.out (fun _ hk => ⟨hk.1.1, ⟨hk.2, ⟨hk.1.2.1, hk.1.2.2⟩⟩⟩))), (bx BK183.out), (bx BK211.out), lk, lb⟩)
        rintro ⟨v236, v239, v242⟩ w95 ⟨hS_, h0_, h1_, h2_, h3_, h4_, h5_, h6_, h7_, h8_, h9_, h10_, h11_, h12_, h13_, h14_⟩
        have n0_ : Aside0 (Kd.V k51 51 w95 w0.heap.size (fun k_ => (P2_ k_ ∨ w.heap.size ≤ k_) ∧ some k_ ≠ (v236 : Value).ownBlock ∧ some k_ ≠ (v239 : Value).ownBlock ∧ some k_ ≠ (v242 : Value).ownBlock ∧ some k_ ≠ (u10 : Value).ownBlock ∧ some k_ ≠ (.slice (some ⟨go23, 0, none⟩) x2_2.length co72 : Value).ownBlock ∧ some k_ ≠ (.slice (some ⟨go38, 0, none⟩) x7_2.length co81 : Value).ownBlock ∧ some k_ ≠ (.slice Ao87 x9_2.length co87 : Value).ownBlock ∧ k_ ≠ gb183 ∧ k_ ≠ gb211) (.slice (some ad210) (rd_L5 x2_2 (rd x8_1 (ji14))).length c194_0) (rd_L5 x2_2 (rd x8_1 (ji14)))) := ⟨h0_⟩
        have n1_ : Aside0 (Kd.V k51 51 w95 w0.heap.size (fun k_ => (P2_ k_ ∨ w.heap.size ≤ k_) ∧ some k_ ≠ (v236 : Value).ownBlock ∧ some k_ ≠ (v239 : Value).ownBlock ∧ some k_ ≠ (v242 : Value).ownBlock ∧ some k_ ≠ (u10 : Value).ownBlock ∧ some k_ ≠ (.slice (some ⟨go23, 0, none⟩) x2_2.length co72 : Value).ownBlock ∧ some k_ ≠ (.slice (some ⟨go38, 0, none⟩) x7_2.length co81 : Value).ownBlock ∧ some k_ ≠ (.slice Ao87 x9_2.length co87 : Value).ownBlock ∧ k_ ≠ gb183 ∧ k_ ≠ gb211) (.slice (some ad210) (rd_L5 x2_2 (rd x8_1 (ji14))).length c194_0) (rd_L5 x2_2 (rd x8_1 (ji14)))) := ⟨h1_⟩
        have n2_ : Aside0 (Kd.V k51 51 w95 w0.heap.size (fun k_ => (P2_ k_ ∨ w.heap.size ≤ k_) ∧ some k_ ≠ (v236 : Value).ownBlock ∧ some k_ ≠ (v239 : Value).ownBlock ∧ some k_ ≠ (v242 : Value).ownBlock ∧ some k_ ≠ (u10 : Value).ownBlock ∧ some k_ ≠ (.slice (some ⟨go23, 0, none⟩) x2_2.length co72 : Value).ownBlock ∧ some k_ ≠ (.slice (some ⟨go38, 0, none⟩) x7_2.length co81 : Value).ownBlock ∧ some k_ ≠ (.slice Ao87 x9_2.length co87 : Value).ownBlock ∧ k_ ≠ gb183 ∧ k_ ≠ gb211) (.slice A212_0 (rd_L5 x2_2 (rd x8_1 (ji14))).length c212_0) (rd_L5 x2_2 (rd x8_1 (ji14)))) := ⟨h2_⟩
        have n3_ : Aside0 (Kd.V k51 51 w95 w0.heap.size (fun k_ => (P2_ k_ ∨ w.heap.size ≤ k_) ∧ some k_ ≠ (v236 : Value).ownBlock ∧ some k_ ≠ (v239 : Value).ownBlock ∧ some k_ ≠ (v242 : Value).ownBlock ∧ some k_ ≠ (u10 : Value).ownBlock ∧ some k_ ≠ (.slice (some ⟨go23, 0, none⟩) x2_2.length co72 : Value).ownBlock ∧ some k_ ≠ (.slice (some ⟨go38, 0, none⟩) x7_2.length co81 : Value).ownBlock ∧ some k_ ≠ (.slice Ao87 x9_2.length co87 : Value).ownBlock ∧ k_ ≠ gb183 ∧ k_ ≠ gb211) (.slice A77 y213.length c77) y213) := ⟨h3_⟩
        have n4_ : Aside0 (Kd.R (Kd.int .i64) 3 w95 w0.heap.size (fun k_ => (P2_ k_ ∨ w.heap.size ≤ k_) ∧ some k_ ≠ (v239 : Value).ownBlock) v236 y235) := ⟨h4_⟩
        have n5_ : Aside0 (Kd.R (Kd.int .i64) 3 w95 w0.heap.size (fun k_ => (P2_ k_ ∨ w.heap.size ≤ k_) ∧ some k_ ≠ (v236 : Value).ownBlock) v239 y238) := ⟨h5_⟩
        have n6_ : Aside0 (Kd.R k51 51 w95 w0.heap.size (fun k_ => (P2_ k_ ∨ w.heap.size ≤ k_) ∧ some k_ ≠ (u10 : Value).ownBlock ∧ some k_ ≠ (.slice Ao87 x9_2.length co87 : Value).ownBlock ∧ k_ ≠ gb211) v242 y241) := ⟨h6_⟩
        have n7_ : Aside0 (Kd.R k51 51 w95 w0.heap.size (fun k_ => (P2_ k_ ∨ w.heap.size ≤ k_) ∧ some k_ ≠ (v242 : Value).ownBlock ∧ some k_ ≠ (.slice Ao87 x9_2.length co87 : Value).ownBlock ∧ k_ ≠ gb211) u10 x10_1) := ⟨h7_⟩
        have n8_ : Aside0 (Kd.N (Kd.slice 51 k51) 26 w95 w0.heap.size (fun k_ => (P2_ k_ ∨ w.heap.size ≤ k_) ∧ some k_ ≠ (v236 : Value).ownBlock ∧ some k_ ≠ (v239 : Value).ownBlock ∧ some k_ ≠ (v242 : Value).ownBlock ∧ some k_ ≠ (u10 : Value).ownBlock ∧ some k_ ≠ (.slice (some ⟨go38, 0, none⟩) x7_2.length co81 : Value).ownBlock ∧ some k_ ≠ (.slice Ao87 x9_2.length co87 : Value).ownBlock ∧ k_ ≠ gb183 ∧ k_ ≠ gb211) (.slice (some ⟨go23, 0, none⟩) x2_2.length co72) y218) := ⟨h8_⟩
        have n9_ : Aside0 (Kd.R Kd.bool 4 w95 w0.heap.size (fun k_ => (P2_ k_ ∨ w.heap.size ≤ k_)) (.slice (some ⟨go38, 0, none⟩) x7_2.length co81) y220) := ⟨h9_⟩
        have n10_ : Aside0 (Kd.R k51 51 w95 w0.heap.size (fun k_ => (P2_ k_ ∨ w.heap.size ≤ k_) ∧ some k_ ≠ (v242 : Value).ownBlock ∧ some k_ ≠ (u10 : Value).ownBlock ∧ k_ ≠ gb211) (.slice Ao87 x9_2.length co87) x9_2) := ⟨h10_⟩
        have n11_ : Aside0 (w95.heap[gb183]? = some (.cells #[.int .i64 a0_0, .slice (some ad221) l0_1.length c0_1] 24 (0, 0))) := ⟨h11_⟩
        have n12_ : Aside0 (w95.heap[gb211]? = some (.cells #[.int .i64 ((rd_T51 (rd_L5 x2_2 (rd x8_1 (ji14))) 0).f0), .bool false] 51 (0, 0))) := ⟨h12_⟩
        have n13_ : Aside0 (Kept w w95 (fun k_ => P2_ k_)) := ⟨h13_⟩
        have n14_ : Aside0 (Below w0.heap.size w0 w95) := ⟨h14_⟩
        clear HO_2
        clear HO_7
        clear HO_8
        clear HO_9
        clear HO_10
        clear HL194_0
        clear HL209_0
        clear HL212_0
        clear HO217
        clear BK183
        clear BK211
        clear HK
        clear HB
        clear h0_ h1_ h2_ h3_ h4_ h5_ h6_ h7_ h8_ h9_ h10_ h11_ h12_ h13_ h14_
        have HL194_0 := n0_
        have HL209_0 := n1_
        have HL212_0 := n2_
        have HO217 := n3_
        have HO237 := n4_
        have HO240 := n5_
        have HO243 := n6_
        have HO_10 := n7_
        have HO_2 := n8_
        have HO_7 := n9_
        have HO_9 := n10_
        have BK183 := n11_
        have BK211 := n12_
        have HK := n13_
        have HB := n14_
        clear n0_ n1_ n2_ n3_ n4_ n5_ n6_ n7_ n8_ n9_ n10_ n11_ n12_ n13_ n14_
        have hHeld : w95.cell? ⟨gb211, 0, none⟩ = some (.int .i64 ((rd_T51 (rd_L5 x2_2 (rd x8_1 (ji14))) 0).f0)) ∧ w95.cell? ⟨gb211, 1, none⟩ = some (.bool false) := hS_
        obtain ⟨Ao97, co97, eo97⟩ := Kd.R_slice HO243.out
        (first | subst eo97 | (injection eo97 with f1_ f2_ f3_; have f4_ := f1_.symm; have f5_ := f3_.symm; clear f1_ f2_ f3_; subst f4_; subst f5_))
        refine norm_ (a' := ?_) ?_ ?_
        rotate_left
        ·
         simp only [putAll, Act.put, List.setIfInBounds_toArray, List.set_cons_zero, List.set_cons_succ]
         rfl
        refine one_ (i := 7) (N := some 79) #[true, true, true, true, true, true, true, true, false, false] rfl rfl (one_of HT_.out (by kernel_rfl)) (by decide) (fun K hK => ?_)
        refine Kd.R_append_rows_step k51 (w0 := w0) w0.heap.size (by rfl) (.tmp 76) (.tmp 78) 26 51 (.agg #[(.int .i64 0), (.bool false)]) 16 rfl Try.underlying26 info51 rfl (by decide) (by omega) (.slice Ao87 x9_2.length co87) x9_2 y241 _ _ _ (fun k_ => (P2_ k_ ∨ w.heap.size ≤ k_) ∧ some k_ ≠ (u10 : Value).ownBlock ∧ some k_ ≠ (.slice Ao97 y241.length co97 : Value).ownBlock ∧ k_ ≠ gb211) (fun _ => False) rfl rfl ?aO ?aR (fun _ _ h => h) (fun _ h => h.elim) ?aF ?aB ?aS ?aL ?_
        (case aR => repeat (first | exact (Kd.R_reads' HO243.out).2.2 | (with_reducible refine Kd.C_alloc ?_ _) | (with_reducible refine Kd.C_drewN ?_ _) | (with_reducible refine Kd.C_drew ?_)))
        (case aB => exact lb)
        (case aF => exact (fun k_ hk => ⟨(.inr (Nat.le_trans (by first | exact HK.out.1 | exact (show Kept w _ (fun k_ => P2_ k_) from lk).1) hk)), Kd.fresh' (Kd.R_lt (rx HO_10.out)) k_ hk, Kd.fresh' (Kd.R_lt (rx HO243.out)) k_ hk, Kd.freshB (g := gb211) (o := .cells #[.int .i64 ((rd_T51 (rd_L5 x2_2 (rd x8_1 (ji14))) 0).f0), .bool false] 51 (0, 0)) (bx BK211.out) k_ hk⟩))
        (case aO => exact (by exact rx (Kd.R_mono HO_9.out (fun _ hk => ⟨hk.1, ⟨hk.2.2.1, ⟨hk.2.1, hk.2.2.2⟩⟩⟩))))
        (case aS => exact (below_size lb))
        (case aL => have := LMc71.out; omega)
        intro v245 w96 ho hb hg hat
        rw [← Ny244.out] at ho
        have n0_ := ak (Kd.N_afterv (ok := (fun k_ => (P2_ k_ ∨ w.heap.size ≤ k_) ∧ some k_ ≠ (.slice (some ⟨go38, 0, none⟩) x7_2.length co81 : Value).ownBlock ∧ some k_ ≠ (u10 : Value).ownBlock ∧ some k_ ≠ (v236 : Value).ownBlock ∧ some k_ ≠ (v239 : Value).ownBlock ∧ some k_ ≠ (.slice Ao97 y241.length co97 : Value).ownBlock ∧ k_ ≠ gb183 ∧ k_ ≠ gb211)) (by exact nx (Kd.N_mono HO_2.out (fun _ hk => ⟨⟨hk.1, ⟨hk.2.2.2.2.2.1, ⟨hk.2.2.2.2.1, ⟨hk.2.1, ⟨hk.2.2.1, ⟨hk.2.2.2.1, ⟨hk.2.2.2.2.2.2.2.1, hk.2.2.2.2.2.2.2.2⟩⟩⟩⟩⟩⟩⟩, hk.2.2.2.2.2.2.1⟩))) hg hat)
        have n1_ := ak (Kd.R_over' (rx HO_7.out) (Kd.R_typed (rx HO_9.out)) (by decide) hg)
        have n2_ := ak (Kd.R_after (ok := (fun k_ => (P2_ k_ ∨ w.heap.size ≤ k_) ∧ some k_ ≠ (.slice Ao97 y241.length co97 : Value).ownBlock ∧ k_ ≠ gb211)) (by exact rx (Kd.R_mono HO_10.out (fun _ hk => ⟨⟨hk.1, ⟨hk.2.1, hk.2.2.2⟩⟩, hk.2.2.1⟩))) hg hat)
        have n3_ := ak (blk_grown (bx BK183.out) hg (Kd.R_ne HO_9.out BK183.out (by decide)))
        have n4_ := ak (Kd.V_afterv (ok := (fun k_ => (P2_ k_ ∨ w.heap.size ≤ k_) ∧ some k_ ≠ (.slice (some ⟨go23, 0, none⟩) x2_2.length co72 : Value).ownBlock ∧ some k_ ≠ (.slice (some ⟨go38, 0, none⟩) x7_2.length co81 : Value).ownBlock ∧ some k_ ≠ (u10 : Value).ownBlock ∧ some k_ ≠ (v236 : Value).ownBlock ∧ some k_ ≠ (v239 : Value).ownBlock ∧ some k_ ≠ (.slice Ao97 y241.length co97 : Value).ownBlock ∧ k_ ≠ gb183 ∧ k_ ≠ gb211)) (by exact vx (Kd.V_mono HL194_0.out (fun _ hk => ⟨⟨hk.1, ⟨hk.2.2.2.2.2.1, ⟨hk.2.2.2.2.2.2.1, ⟨hk.2.2.2.2.1, ⟨hk.2.1, ⟨hk.2.2.1, ⟨hk.2.2.2.1, ⟨hk.2.2.2.2.2.2.2.2.1, hk.2.2.2.2.2.2.2.2.2⟩⟩⟩⟩⟩⟩⟩⟩, hk.2.2.2.2.2.2.2.1⟩))) hg hat)
        have n5_ := ak (Kd.V_afterv (ok := (fun k_ => (P2_ k_ ∨ w.heap.size ≤ k_) ∧ some k_ ≠ (.slice (some ⟨go23, 0, none⟩) x2_2.length co72 : Value).ownBlock ∧ some k_ ≠ (.slice (some ⟨go38, 0, none⟩) x7_2.length co81 : Value).ownBlock ∧ some k_ ≠ (u10 : Value).ownBlock ∧ some k_ ≠ (v236 : Value).ownBlock ∧ some k_ ≠ (v239 : Value).ownBlock ∧ some k_ ≠ (.slice Ao97 y241.length co97 : Value).ownBlock ∧ k_ ≠ gb183 ∧ k_ ≠ gb211)) (by exact vx (Kd.V_mono HL209_0.out (fun _ hk => ⟨⟨hk.1, ⟨hk.2.2.2.2.2.1, ⟨hk.2.2.2.2.2.2.1, ⟨hk.2.2.2.2.1, ⟨hk.2.1, ⟨hk.2.2.1, ⟨hk.2.2.2.1, ⟨hk.2.2.2.2.2.2.2.2.1, hk.2.2.2.2.2.2.2.2.2⟩⟩⟩⟩⟩⟩⟩⟩, hk.2.2.2.2.2.2.2.1⟩))) hg hat)
        have n6_ := ak (blk_grown (bx BK211.out) hg (Kd.R_away HO_9.out (fun _ hk => hk.2.2.2)))
        have n7_ := ak (Kd.V_afterv (ok := (fun k_ => (P2_ k_ ∨ w.heap.size ≤ k_) ∧ some k_ ≠ (.slice (some ⟨go23, 0, none⟩) x2_2.length co72 : Value).ownBlock ∧ some k_ ≠ (.slice (some ⟨go38, 0, none⟩) x7_2.length co81 : Value).ownBlock ∧ some k_ ≠ (u10 : Value).ownBlock ∧ some k_ ≠ (v236 : Value).ownBlock ∧ some k_ ≠ (v239 : Value).ownBlock ∧ some k_ ≠ (.slice Ao97 y241.length co97 : Value).ownBlock ∧ k_ ≠ gb183 ∧ k_ ≠ gb211)) (by exact vx (Kd.V_mono HL212_0.out (fun _ hk => ⟨⟨hk.1, ⟨hk.2.2.2.2.2.1, ⟨hk.2.2.2.2.2.2.1, ⟨hk.2.2.2.2.1, ⟨hk.2.1, ⟨hk.2.2.1, ⟨hk.2.2.2.1, ⟨hk.2.2.2.2.2.2.2.2.1, hk.2.2.2.2.2.2.2.2.2⟩⟩⟩⟩⟩⟩⟩⟩, hk.2.2.2.2.2.2.2.1⟩))) hg hat)
        have n8_ := ak (Kd.V_afterv (ok := (fun k_ => (P2_ k_ ∨ w.heap.size ≤ k_) ∧ some k_ ≠ (.slice (some ⟨go23, 0, none⟩) x2_2.length co72 : Value).ownBlock ∧ some k_ ≠ (.slice (some ⟨go38, 0, none⟩) x7_2.length co81 : Value).ownBlock ∧ some k_ ≠ (u10 : Value).ownBlock ∧ some k_ ≠ (v236 : Value).ownBlock ∧ some k_ ≠ (v239 : Value).ownBlock ∧ some k_ ≠ (.slice Ao97 y241.length co97 : Value).ownBlock ∧ k_ ≠ gb183 ∧ k_ ≠ gb211)) (by exact vx (Kd.V_mono HO217.out (fun _ hk => ⟨⟨hk.1, ⟨hk.2.2.2.2.2.1, ⟨hk.2.2.2.2.2.2.1, ⟨hk.2.2.2.2.1, ⟨hk.2.1, ⟨hk.2.2.1, ⟨hk.2.2.2.1, ⟨hk.2.2.2.2.2.2.2.2.1, hk.2.2.2.2.2.2.2.2.2⟩⟩⟩⟩⟩⟩⟩⟩, hk.2.2.2.2.2.2.2.1⟩))) hg hat)
        have n9_ := ak (Kd.R_over' (rx HO237.out) (Kd.R_typed (rx HO_9.out)) (by decide) hg)
        have n10_ := ak (Kd.R_over' (rx HO240.out) (Kd.R_typed (rx HO_9.out)) (by decide) hg)
        have n11_ := ak (Kd.R_after (ok := (fun k_ => (P2_ k_ ∨ w.heap.size ≤ k_) ∧ some k_ ≠ (u10 : Value).ownBlock ∧ k_ ≠ gb211)) (by exact rx (Kd.R_mono HO243.out (fun _ hk => ⟨⟨hk.1, ⟨hk.2.1, hk.2.2.2⟩⟩, hk.2.2.1⟩))) hg hat)
        have n12_ := ak (hb)
        have n13_ := ak (Kept.of_grown (S := (fun k_ => P2_ k_)) hg lk (fun k_ e_ => (HO_9.out.1 k_ e_).1))
        have n14_ := ak (ho)
        clear HO_2
        clear HO_7
        clear HO_10
        clear BK183
        clear HL194_0
        clear HL209_0
        clear BK211
        clear HL212_0
        clear HO217
        clear HO237
        clear HO240
        clear HO243
        clear HB
        clear HK
        clear HO_9
        have HO_2 := n0_
        have HO_7 := n1_
        have HO_10 := n2_
        have BK183 := n3_
        have HL194_0 := n4_
        have HL209_0 := n5_
        have BK211 := n6_
        have HL212_0 := n7_
        have HO217 := n8_
        have HO237 := n9_
        have HO240 := n10_
        have HO243 := n11_
        have HB := n12_
        have HK := n13_
        have HO246 := n14_
        clear n0_ n1_ n2_ n3_ n4_ n5_ n6_ n7_ n8_ n9_ n10_ n11_ n12_ n13_ n14_
        clear ho hb hg hat
        refine hK.out _ _ ⟨(blk_cell BK211.out 0).trans rfl, (blk_cell BK211.out 1).trans rfl⟩ (fun hHeld => ?_)
        clear hK K
        refine norm_ (a' := ?_) ?_ ?_
        rotate_left
        ·
         show Act.put _ (some 79) _ = _
         simp only [Act.put, List.setIfInBounds_toArray, List.set_cons_zero, List.set_cons_succ, i64_w, i32_w]
         rfl
        refine pure_ (i := 8) (N := some 8) (v := ?_) (a' := ?_) #[true, true, true, true, true, true, true, true, true, false] rfl rfl (any_of HT_.out (by kernel_rfl)) (fun _ _ _ h => h) (Or.inl ⟨by rfl, ?_⟩) ?_ ?_; rotate_left; intro w'; go_simp; with_reducible rfl; rotate_left; simp only [Act.put, List.setIfInBounds_toArray, List.set_cons_zero, List.set_cons_succ, i64_w, i32_w]; rfl
        refine pure_ (i := 9) (N := some 9) (v := ?_) (a' := ?_) #[true, true, true, true, true, true, true, true, true, true] rfl rfl (any_of HT_.out (by kernel_rfl)) (fun _ _ _ h => h) (Or.inl ⟨by rfl, ?_⟩) ?_ ?_; rotate_left; intro w'; go_simp; with_reducible rfl; rotate_left; simp only [Act.put, List.setIfInBounds_toArray, List.set_cons_zero, List.set_cons_succ, i64_w, i32_w]; rfl
        refine done_ (done_of HT_.out (by kernel_rfl)) ?_
        try go_wp2_with (first | go_step3 | (with_reducible refine Eq.mpr Exit.noGoto_normal ?_) | (with_reducible refine Eq.mpr Exit.noGoto_ret ?_) | (with_reducible refine Eq.mpr (Exit.noGoto_exit _) ?_))
        go_roundg k2
        case measure => have := HK1.out; have := HK2.out; omega
        case rel => exact ⟨(y218), (y220), (y238), (y244), (x10_1), H', ⟨by have := HK1.out; have := HK2.out; omega⟩, ⟨by exact nx (Kd.N_mono HO_2.out (fun _ hk => ⟨hk.1.1, ⟨hk.1.2.1, ⟨hk.1.2.2.2.2.1, ⟨hk.2, ⟨hk.1.2.2.1, hk.1.2.2.2.2.2.2.1⟩⟩⟩⟩⟩))⟩, ⟨rx HO_7.out⟩, ⟨by exact rx (Kd.R_mono HO240.out (fun _ hk => hk.1))⟩, ⟨by exact rx (Kd.R_mono HO246.out (fun _ hk => ⟨hk.1, hk.2.1⟩))⟩, ⟨by exact rx (Kd.R_mono HO_10.out (fun _ hk => ⟨hk.1.1, hk.2⟩))⟩, ⟨bx BK183.out⟩, ⟨lk⟩, ⟨lb⟩⟩
     ·
      rw [if_neg c20] at H
      have c20b0 : decide (0 < ((rd_L5 x2_2 (rd x8_1 (ji14))).length : Int)) = false := decide_eq_false c20
      have c20b1 : decide (0 < (rd_L5 x2_2 (rd x8_1 (ji14))).length) = false := decide_eq_false (by omega)
      clear c20
      by_cases c98 : (x9_2.length : Int) = 0
      ·
       rw [if_pos c98] at H
       have c98b0 : ((x9_2.length : Int) == 0) = true := beq_iff_eq.mpr c98
       have c98b1 : ((x9_2.length : Int) != 0) = false := bne_eq_false_iff_eq.mpr c98
       clear c98
       replace H := Option.bind_eq_some_iff.mp H
       obtain ⟨t195, A990, H⟩ := H
       replace H : (some (t195, x2_2)) = some (r1, r2) := H
       have A99 := ak A990
       clear A990
       simp only [Option.some.injEq, Prod.mk.injEq] at H
       obtain ⟨rfl, rfl⟩ := H
       obtain ⟨Ao100, co100, eo100⟩ := Kd.N_slice HO_2.out
       subst eo100
       have p194 : 0 ≤ ((rd x8_1 (ji14)) : Int) := oda
       have q194 : (rd x8_1 (ji14)) < (x2_2.length : Int) := oda
       obtain ⟨ad194, A194_0, c194_0, e194, hx194_0, hl194_0, hi194_0⟩ := at_L5 (Kd.N_reads' HO_2.out).2.2 (rd x8_1 (ji14)) p194 q194
       cases e194
       obtain ⟨ce194, hce194, hMe194, hcc194⟩ := Kd.N_get HO_2.out [] (rd x8_1 (ji14)) p194 (by first | exact q194 | exact oda | (have e_ := (Kd.N_reads' HO_2.out).1; omega))
       obtain ⟨ua194_0, uc194_0, rfl, ul194_0, ge194_0⟩ := Kd.FK_slice_open hMe194
       have hv194_0 := hcc194 0 _ rfl
       rw [Nat.add_zero, show ((Kd.slice 51 k51)).sz = 1 from rfl, Nat.mul_one] at hv194_0
       replace hv194_0 := Option.some.inj (hv194_0.symm.trans hx194_0)
       injection hv194_0 with hva_ hvn_ hvc_
       rw [hva_] at ge194_0
       rw [hvc_] at ul194_0
       have HL194_0 := ak (show Kd.V k51 51 _ w0.heap.size _ _ (rd_L5 x2_2 (rd x8_1 (ji14))) from Kd.V_mk ul194_0 ge194_0)
       clear hva_ hvn_ hvc_ ge194_0 ul194_0
       clear hcc194 hce194
       have HR194_0 := ak hi194_0
       have HC194_0 := ak hl194_0
       clear hi194_0 hl194_0
       replace p194 := eq_true p194
       replace q194 := eq_true q194
       obtain ⟨Ao101, co101, eo101⟩ := Kd.R_slice HO_9.out
       subst eo101
       obtain ⟨Ao102, co102, eo102⟩ := Kd.R_slice HO_10.out
       subst eo102
       go_wp2_with (first | go_step3 | (with_reducible refine Eq.mpr Exit.noGoto_normal ?_) | (with_reducible refine Eq.mpr Exit.noGoto_ret ?_) | (with_reducible refine Eq.mpr (Exit.noGoto_exit _) ?_) | ((with_reducible refine gate_callee (f := 33) rfl ?_); refine goesL_ (some 103) rfl rfl Try.func33 (by kernel_rfl) rfl #[.slice Ao102 x10_1.length co102] rfl (by (try simp only [List.map_toArray, List.map_cons, List.map_nil]); first | done | rfl | (simp only [List.length_drop, List.length_take]; rfl)) ?_; (with_reducible refine (euler_Step.calls k2 (fun k_ => some k_ = (.slice Ao102 x10_1.length co102 : Value).ownBlock) (.slice Ao102 x10_1.length co102) x10_1 t195 w0 _ ?side1 ?side2 A99.out).mono ?_); (case side1 => repeat (first | (with_reducible first | exact HB.out | apply below_alloc | apply pw_below_drewN | apply below_drew1 | refine below_set ?_ GE183.out) | exact HB.out)); (case side2 => exact Kd.R_tight rfl HO_10.out); rintro e w103 ⟨rfl, hy0, hb, hkp⟩; refine ⟨_, rfl, ?_⟩; have n0_ := ak (Kd.N_mono (ok' := fun k_ => (P2_ k_ ∨ w.heap.size ≤ k_) ∧ some k_ ≠ (v185 : Value).ownBlock ∧ some k_ ≠ (u8 : Value).ownBlock ∧ some k_ ≠ (.slice Ao101 x9_2.length co101 : Value).ownBlock ∧ some k_ ≠ (.slice Ao102 x10_1.length co102 : Value).ownBlock ∧ k_ ≠ gb183) (Kd.N_keptB (HO_2.out) hkp (fun k_ hk_ hs_ => (hk_.2.2.2.2.1) hs_)) (fun k_ hk_ => ⟨hk_.1.1, hk_.1.2.1, hk_.1.2.2.1, hk_.1.2.2.2.1, hk_.1.2.2.2.2.1, hk_.1.2.2.2.2.2⟩)); have n1_ := ak (Kd.R_mono (ok' := fun k_ => (P2_ k_ ∨ w.heap.size ≤ k_)) (Kd.R_keptB ((Kd.R_apart' HO_7.out (Kd.R_typed HO_10.out) (by decide))) hkp (fun k_ hk_ hs_ => (hk_.2) hs_)) (fun k_ hk_ => hk_.1.1)); have n2_ := ak (Kd.R_mono (ok' := fun k_ => (P2_ k_ ∨ w.heap.size ≤ k_)) (Kd.R_keptB ((Kd.R_apart' HO_8.out (Kd.R_typed HO_10.out) (by decide))) hkp (fun k_ hk_ hs_ => (hk_.2) hs_)) (fun k_ hk_ => hk_.1.1)); have n3_ := ak (Kd.R_mono (ok' := fun k_ => (P2_ k_ ∨ w.heap.size ≤ k_) ∧ some k_ ≠ (.slice Ao102 x10_1.length co102 : Value).ownBlock) (Kd.R_keptB (HO_9.out) hkp (fun k_ hk_ hs_ => (hk_.2) hs_)) (fun k_ hk_ => ⟨hk_.1.1, hk_.1.2⟩)); have n4_ := ak (Kd.R_reok rfl hy0 (fun k_ e_ => HO_10.out.1 k_ e_)); have n5_ := ak (blk_kept (bx BK183.out) hkp (fun hs_ => (fun e_ => (Kd.R_ne HO_10.out BK183.out (by decide)) e_) hs_)); have n6_ := ak (Kept.then_ (S := (fun k_ => P2_ k_)) lk hkp (fun k_ hs_ => (fun e_ => (HO_10.out.1 k_ e_.symm).1) hs_)); have n7_ := ak (hb); clear HO_2; clear HO_7; clear HO_8; clear HO_9; clear HO_10; clear BK183; clear HK; clear HB; clear HL194_0; have HO_2 := n0_; have HO_7 := n1_; have HO_8 := n2_; have HO_9 := n3_; have HO_10 := n4_; have BK183 := n5_; have HK := n6_; have HB := n7_; clear n0_ n1_ n2_ n3_ n4_ n5_ n6_ n7_; (try clear hb); (try clear hkp); (try clear hy0)))
       go_ret
       exact ⟨_, by first | rfl | (simp [errW_none, errW_some] <;> rfl) | (simp only [← hji14]; first | rfl | (simp [errW_none, errW_some] <;> rfl)) | (simp [*, errW_none, errW_some] <;> rfl), by exact rx (Kd.R_mono HO_10.out (fun _ hk => hk.1)), by exact nx (Kd.N_mono HO_2.out (fun _ hk => hk.1)), lb, lk⟩
      ·
       rw [if_neg c98] at H
       have c98b0 : ((x9_2.length : Int) == 0) = false := beq_eq_false_iff_ne.mpr c98
       have c98b1 : ((x9_2.length : Int) != 0) = true := bne_iff_ne.mpr c98
       have c98b2 : ¬ (x9_2 = []) := fun h_ => c98 (by rw [h_]; rfl)
       obtain ⟨ji104, hji104⟩ : ∃ j_ : Int, (wrap64 ((x9_2.length : Int) - 1)) = j_ := ⟨_, rfl⟩
       replace H : (if 0 ≤ (ji104) then (if (ji104) < (x9_2.length : Int) then ((some (([(⟨(rd_T51 x9_2 (ji104)).f0, (rd_T51 x9_2 (ji104)).f1⟩ : S51)] : List (S51)) : List (S51))).bind fun y197 => (if x10_1.length + y197.length < 8796093022208 then (if 0 ≤ (wrap64 ((x8_2.length : Int) - 1)) then (if (wrap64 ((x8_2.length : Int) - 1)) ≤ (x8_2.length : Int) then (if (ji104) ≤ (x9_2.length : Int) then (euler_circuit.l0 k2 x2_2 x7_2 (x8_2.take ((wrap64 ((x8_2.length : Int) - 1)) : Int).toNat) (x9_2.take ((ji104) : Int).toNat) (x10_1 ++ y197) a0_0 l0_1) else (none)) else (none)) else (none)) else (none))) else (none)) else (none)) = some (r1, r2) := by first | (rw [hji104] at H; exact H) | (simp only [hji104] at H ⊢; exact H)
       have hji104w : (IntKind.i64.wrap ((x9_2.length : Int) - 1)) = ji104 := (i64_w _).trans hji104
       by_cases c105 : 0 ≤ (ji104)
       rotate_left
       ·
        rw [if_neg c105] at H
        exact absurd H (by simp)
       rw [if_pos c105] at H
       have c105b0 : decide (0 ≤ (ji104)) = true := decide_eq_true c105
       clear c105
       by_cases c106 : (ji104) < (x9_2.length : Int)
       rotate_left
       ·
        rw [if_neg c106] at H
        exact absurd H (by simp)
       rw [if_pos c106] at H
       have c106b0 : decide ((ji104) < (x9_2.length : Int)) = true := decide_eq_true c106
       clear c106
       obtain ⟨y197, hy197⟩ : ∃ y_ : List (S51), y_ = (([(⟨(rd_T51 x9_2 (ji104)).f0, (rd_T51 x9_2 (ji104)).f1⟩ : S51)] : List (S51))) := ⟨_, rfl⟩
       replace H : (if x10_1.length + y197.length < 8796093022208 then (if 0 ≤ (wrap64 ((x8_2.length : Int) - 1)) then (if (wrap64 ((x8_2.length : Int) - 1)) ≤ (x8_2.length : Int) then (if (ji104) ≤ (x9_2.length : Int) then (euler_circuit.l0 k2 x2_2 x7_2 (x8_2.take ((wrap64 ((x8_2.length : Int) - 1)) : Int).toNat) (x9_2.take ((ji104) : Int).toNat) (x10_1 ++ y197) a0_0 l0_1) else (none)) else (none)) else (none)) else (none)) = some (r1, r2) := by first | (rw [hy197]; exact H) | exact H
       have Ny197 := ak hy197
       clear hy197
       by_cases c107 : x10_1.length + y197.length < 8796093022208
       rotate_left
       ·
        rw [if_neg c107] at H
        exact absurd H (by simp)
       rw [if_pos c107] at H
       have LMc107 := ak c107
       clear c107
       obtain ⟨y200, hy200⟩ : ∃ y_ : List (S51), y_ = (x10_1 ++ y197) := ⟨_, rfl⟩
       replace H : (if 0 ≤ (wrap64 ((x8_2.length : Int) - 1)) then (if (wrap64 ((x8_2.length : Int) - 1)) ≤ (x8_2.length : Int) then (if (ji104) ≤ (x9_2.length : Int) then (euler_circuit.l0 k2 x2_2 x7_2 (x8_2.take ((wrap64 ((x8_2.length : Int) - 1)) : Int).toNat) (x9_2.take ((ji104) : Int).toNat) y200 a0_0 l0_1) else (none)) else (none)) else (none)) = some (r1, r2) := by first | (rw [hy200]; exact H) | exact H
       have Ny200 := ak hy200
       clear hy200
       obtain ⟨ji108, hji108⟩ : ∃ j_ : Int, (wrap64 ((x8_2.length : Int) - 1)) = j_ := ⟨_, rfl⟩
       replace H : (if 0 ≤ (ji108) then (if (ji108) ≤ (x8_2.length : Int) then (if (ji104) ≤ (x9_2.length : Int) then (euler_circuit.l0 k2 x2_2 x7_2 (x8_2.take ((ji108) : Int).toNat) (x9_2.take ((ji104) : Int).toNat) y200 a0_0 l0_1) else (none)) else (none)) else (none)) = some (r1, r2) := by first | (rw [hji108] at H; exact H) | (simp only [hji108] at H ⊢; exact H)
       have hji108w : (IntKind.i64.wrap ((x8_2.length : Int) - 1)) = ji108 := (i64_w _).trans hji108
       by_cases c109 : 0 ≤ (ji108)
       rotate_left
       ·
        rw [if_neg c109] at H
        exact absurd H (by simp)
       rw [if_pos c109] at H
       have c109b0 := eq_true c109
       have c109b1 : decide (0 ≤ (ji108)) = true := decide_eq_true c109
       clear c109
       by_cases c110 : (ji108) ≤ (x8_2.length : Int)
       rotate_left
       ·
        rw [if_neg c110] at H
        exact absurd H (by simp)
       rw [if_pos c110] at H
       have c110b0 := eq_true c110
       have c110b1 : decide ((ji108) ≤ (x8_2.length : Int)) = true := decide_eq_true c110
       clear c110
       obtain ⟨y203, hy203⟩ : ∃ y_ : List Int, y_ = (x8_2.take ((ji108) : Int).toNat) := ⟨_, rfl⟩
       replace H : (if (ji104) ≤ (x9_2.length : Int) then (euler_circuit.l0 k2 x2_2 x7_2 y203 (x9_2.take ((ji104) : Int).toNat) y200 a0_0 l0_1) else (none)) = some (r1, r2) := by first | (rw [hy203]; exact H) | exact H
       have Ny203 := ak hy203
       clear hy203
       by_cases c111 : (ji104) ≤ (x9_2.length : Int)
       rotate_left
       ·
        rw [if_neg c111] at H
        exact absurd H (by simp)
       rw [if_pos c111] at H
       have c111b0 := eq_true c111
       have c111b1 : decide ((ji104) ≤ (x9_2.length : Int)) = true := decide_eq_true c111
       clear c111
       obtain ⟨y206, hy206⟩ : ∃ y_ : List (S51), y_ = (x9_2.take ((ji104) : Int).toNat) := ⟨_, rfl⟩
       replace H : (euler_circuit.l0 k2 x2_2 x7_2 y203 y206 y200 a0_0 l0_1) = some (r1, r2) := by first | (rw [hy206]; exact H) | exact H
       have Ny206 := ak hy206
       clear hy206
       have H' := ak H
       clear H
       obtain ⟨Ao112, co112, eo112⟩ := Kd.N_slice HO_2.out
       subst eo112
       have p194 : 0 ≤ ((rd x8_1 (ji14)) : Int) := oda
       have q194 : (rd x8_1 (ji14)) < (x2_2.length : Int) := oda
       obtain ⟨ad194, A194_0, c194_0, e194, hx194_0, hl194_0, hi194_0⟩ := at_L5 (Kd.N_reads' HO_2.out).2.2 (rd x8_1 (ji14)) p194 q194
       cases e194
       obtain ⟨ce194, hce194, hMe194, hcc194⟩ := Kd.N_get HO_2.out [] (rd x8_1 (ji14)) p194 (by first | exact q194 | exact oda | (have e_ := (Kd.N_reads' HO_2.out).1; omega))
       obtain ⟨ua194_0, uc194_0, rfl, ul194_0, ge194_0⟩ := Kd.FK_slice_open hMe194
       have hv194_0 := hcc194 0 _ rfl
       rw [Nat.add_zero, show ((Kd.slice 51 k51)).sz = 1 from rfl, Nat.mul_one] at hv194_0
       replace hv194_0 := Option.some.inj (hv194_0.symm.trans hx194_0)
       injection hv194_0 with hva_ hvn_ hvc_
       rw [hva_] at ge194_0
       rw [hvc_] at ul194_0
       have HL194_0 := ak (show Kd.V k51 51 _ w0.heap.size _ _ (rd_L5 x2_2 (rd x8_1 (ji14))) from Kd.V_mk ul194_0 ge194_0)
       clear hva_ hvn_ hvc_ ge194_0 ul194_0
       clear hcc194 hce194
       have HR194_0 := ak hi194_0
       have HC194_0 := ak hl194_0
       clear hi194_0 hl194_0
       replace p194 := eq_true p194
       replace q194 := eq_true q194
       obtain ⟨Ao113, co113, eo113⟩ := Kd.R_slice HO_9.out
       subst eo113
       have p196 : 0 ≤ ((ji104) : Int) := oda
       have q196 : (ji104) < (x9_2.length : Int) := oda
       obtain ⟨ad196, e196, hx196_0, hx196_1⟩ := at_T51 (Kd.R_reads' HO_9.out).2.2 (ji104) p196 q196
       cases e196
       replace p196 := eq_true p196
       replace q196 := eq_true q196
       try go_wp2_with (first | go_step3 | (with_reducible refine Eq.mpr Exit.noGoto_normal ?_) | (with_reducible refine Eq.mpr Exit.noGoto_ret ?_) | (with_reducible refine Eq.mpr (Exit.noGoto_exit _) ?_) | ((with_reducible refine gate_dst (N := 90) rfl ?_); refine Kd.R_lit k51 _ 51 ?hg (N := 90) ?hd (xs := ([(⟨(rd_T51 x9_2 (ji104)).f0, (rd_T51 x9_2 (ji104)).f1⟩ : S51)] : List (S51))) (inner := [.int .i64 ((rd_T51 x9_2 (ji104)).f0), .bool ((rd_T51 x9_2 (ji104)).f1)]) (ok := fun _ => True) (okp := fun _ => True) ?hr ?hp (fun _ hk => hk) trivial (Below.refl _ _) (Nat.le_refl _) (by simp) ?_; (case hd => rfl); (case hg => rfl); (case hr => first | (go_simp; done) | (go_simp; rfl)); (case hp => exact (Reps.c2 (show Kd.M k51 _ _ _ (⟨(rd_T51 x9_2 (ji104)).f0, (rd_T51 x9_2 (ji104)).f1⟩ : S51) [.int .i64 ((rd_T51 x9_2 (ji104)).f0), .bool ((rd_T51 x9_2 (ji104)).f1)] from (k51_mkM _ _ _ (⟨(rd_T51 x9_2 (ji104)).f0, (rd_T51 x9_2 (ji104)).f1⟩ : S51) )) (Reps.none _ _))); intro v198 w114 ho115 hb hg_ hnew_; clear hg_ hnew_; (first | rw [← Ny197.out] at ho115 | (simp only [Int.reduceToNat] at ho115; rw [← Ny197.out] at ho115)); have n0_ := ak (Kd.N_elder' (nx HO_2.out) (Kd.R_base ho115) hb); have n1_ := ak (Kd.R_below (rx HO_7.out) hb); have n2_ := ak (Kd.R_below (rx HO_8.out) hb); have n3_ := ak (Kd.R_elder' (rx HO_9.out) (Kd.R_base ho115) hb); have n4_ := ak (Kd.R_elder' (rx HO_10.out) (Kd.R_base ho115) hb); have n5_ := ak (Kd.V_elder' (vx HL194_0.out) (Kd.R_base ho115) hb); have n6_ := ak (Kd.R_lower (Kd.R_new' (Kd.R_new' (Kd.R_newM (M := fun k_ => (P2_ k_ ∨ w.heap.size ≤ k_)) ho115 (by first | exact HK.out.1 | exact (show Kept w _ (fun k_ => P2_ k_) from lk).1) (fun k_ h_ => .inr h_)) (Kd.R_lt (rx HO_9.out))) (Kd.R_lt (rx HO_10.out))) (below_size lb)); have n7_ := ak (blk_below (bx BK183.out) hb); have n8_ := ak (Kd.C_below (by repeat (first | (with_reducible exact HR194_0.out) | (with_reducible refine Kd.C_alloc ?_ _) | (with_reducible refine Kd.C_drewN ?_ _) | (with_reducible refine Kd.C_drew ?_) | exact HR194_0.out)) hb); have n9_ := ak (Kept.below (S := (fun k_ => P2_ k_)) lk hb); have n10_ := ak (below_step lb hb); clear HO_2; clear HO_7; clear HO_8; clear HO_9; clear HO_10; clear HL194_0; clear BK183; clear HR194_0; clear HK; clear HB; have HO_2 := n0_; have HO_7 := n1_; have HO_8 := n2_; have HO_9 := n3_; have HO_10 := n4_; have HL194_0 := n5_; have HO199 := n6_; have BK183 := n7_; have HR194_0 := n8_; have HK := n9_; have HB := n10_; clear n0_ n1_ n2_ n3_ n4_ n5_ n6_ n7_ n8_ n9_ n10_; clear hb ho115; obtain ⟨Ao117, co117, eo117⟩ := Kd.R_slice HO199.out; subst eo117) | ((with_reducible refine gate_builtin (b := .append) (xs := #[.tmp 83, .tmp 90]) rfl ?_); at_builtin; refine Kd.R_append_rows k51 (w0 := w0) w0.heap.size rfl (.tmp 83) (.tmp 90) 26 51 (.agg #[(.int .i64 0), (.bool false)]) 16 rfl Try.underlying26 info51 rfl (by decide) (by omega) u10 x10_1 y197 _ _ _ (fun k_ => (P2_ k_ ∨ w.heap.size ≤ k_) ∧ some k_ ≠ (.slice (some ad196) x9_2.length co113 : Value).ownBlock ∧ some k_ ≠ (.slice Ao117 y197.length co117 : Value).ownBlock) (fun _ => False) rfl rfl ?aO ?aR (fun _ _ h => h) (fun _ h => h.elim) ?aF ?aB ?aS ?aL ?_; (case aR => repeat (first | exact (Kd.R_reads' HO199.out).2.2 | (with_reducible refine Kd.C_alloc ?_ _) | (with_reducible refine Kd.C_drewN ?_ _) | (with_reducible refine Kd.C_drew ?_))); (case aB => exact lb); (case aF => exact (fun k_ hk => ⟨(.inr (Nat.le_trans (by first | exact HK.out.1 | exact (show Kept w _ (fun k_ => P2_ k_) from lk).1) hk)), Kd.fresh' (Kd.R_lt (rx HO_9.out)) k_ hk, Kd.fresh' (Kd.R_lt (rx HO199.out)) k_ hk⟩)); (case aO => exact (by exact rx (Kd.R_mono HO_10.out (fun _ hk => ⟨hk.1.1, ⟨hk.1.2, hk.2⟩⟩)))); (case aS => exact (below_size lb)); (case aL => have := LMc107.out; omega); intro v201 w116 ho hb hg hat; rw [← Ny200.out] at ho; have n0_ := ak (Kd.N_afterv (ok := (fun k_ => (P2_ k_ ∨ w.heap.size ≤ k_) ∧ some k_ ≠ (v185 : Value).ownBlock ∧ some k_ ≠ (u8 : Value).ownBlock ∧ some k_ ≠ (.slice (some ad196) x9_2.length co113 : Value).ownBlock ∧ some k_ ≠ (.slice Ao117 y197.length co117 : Value).ownBlock ∧ k_ ≠ gb183)) (by exact nx (Kd.N_mono HO_2.out (fun _ hk => ⟨⟨hk.1.1, ⟨hk.1.2.1, ⟨(by first | exact hk.1.2.2.1 | exact owb hk.1.2.2.1), ⟨(by first | exact hk.1.2.2.2.1 | exact owb hk.1.2.2.2.1), ⟨hk.2, hk.1.2.2.2.2.2⟩⟩⟩⟩⟩, hk.1.2.2.2.2.1⟩))) hg hat); have n1_ := ak (Kd.R_over' (rx HO_7.out) (Kd.R_typed (rx HO_10.out)) (by decide) hg); have n2_ := ak (Kd.R_over' (rx HO_8.out) (Kd.R_typed (rx HO_10.out)) (by decide) hg); have n3_ := ak (Kd.R_after (ok := (fun k_ => (P2_ k_ ∨ w.heap.size ≤ k_) ∧ some k_ ≠ (.slice Ao117 y197.length co117 : Value).ownBlock)) (by exact rx (Kd.R_mono HO_9.out (fun _ hk => ⟨⟨hk.1.1, hk.2⟩, hk.1.2⟩))) hg hat); have n4_ := ak (blk_grown (bx BK183.out) hg (Kd.R_ne HO_10.out BK183.out (by decide))); have n5_ := ak (Kd.V_afterv (ok := (fun k_ => (P2_ k_ ∨ w.heap.size ≤ k_) ∧ some k_ ≠ (.slice (some ad194) x2_2.length co112 : Value).ownBlock ∧ some k_ ≠ (v185 : Value).ownBlock ∧ some k_ ≠ (u8 : Value).ownBlock ∧ some k_ ≠ (.slice (some ad196) x9_2.length co113 : Value).ownBlock ∧ some k_ ≠ (.slice Ao117 y197.length co117 : Value).ownBlock ∧ k_ ≠ gb183)) (by exact vx (Kd.V_mono HL194_0.out (fun _ hk => ⟨⟨hk.1.1.1, ⟨hk.1.2, ⟨hk.1.1.2.1, ⟨hk.1.1.2.2.1, ⟨hk.1.1.2.2.2.1, ⟨hk.2, hk.1.1.2.2.2.2.2⟩⟩⟩⟩⟩⟩, hk.1.1.2.2.2.2.1⟩))) hg hat); have n6_ := ak (Kd.R_after (ok := (fun k_ => (P2_ k_ ∨ w.heap.size ≤ k_) ∧ some k_ ≠ (.slice (some ad196) x9_2.length co113 : Value).ownBlock)) (by exact rx (Kd.R_mono HO199.out (fun _ hk => ⟨⟨hk.1.1.1, hk.1.2⟩, hk.2⟩))) hg hat); have n7_ := ak (hb); have n8_ := ak (Kept.of_grown (S := (fun k_ => P2_ k_)) hg lk (fun k_ e_ => (HO_10.out.1 k_ e_).1.1)); have n9_ := ak (ho); clear HO_2; clear HO_7; clear HO_8; clear HO_9; clear BK183; clear HL194_0; clear HO199; clear HB; clear HK; clear HO_10; have HO_2 := n0_; have HO_7 := n1_; have HO_8 := n2_; have HO_9 := n3_; have BK183 := n4_; have HL194_0 := n5_; have HO199 := n6_; have HB := n7_; have HK := n8_; have HO202 := n9_; clear n0_ n1_ n2_ n3_ n4_ n5_ n6_ n7_ n8_ n9_; clear ho hb hg hat))
       have n0_ := ak (Kd.N_drew HO_2.out)
       have n1_ := ak (Kd.R_drew HO_7.out)
       have n2_ := ak (Kd.R_drew HO_8.out)
       have n3_ := ak (Kd.R_drew HO_9.out)
       have n4_ := ak (Kd.V_drew HL194_0.out)
       have n5_ := ak (Kd.R_drew HO199.out)
       have n6_ := ak (Kd.R_drew HO202.out)
       have n7_ := ak (blk_drew BK183.out)
       have n8_ := ak (Kept.drew HK.out)
       have n9_ := ak (below_drew1 HB.out)
       clear HO_2
       clear HO_7
       clear HO_8
       clear HO_9
       clear HL194_0
       clear HO199
       clear HO202
       clear BK183
       clear HK
       clear HB
       have HO_2 := n0_
       have HO_7 := n1_
       have HO_8 := n2_
       have HO_9 := n3_
       have HL194_0 := n4_
       have HO199 := n5_
       have HO202 := n6_
       have BK183 := n7_
       have HK := n8_
       have HB := n9_
       clear n0_ n1_ n2_ n3_ n4_ n5_ n6_ n7_ n8_ n9_
       obtain ⟨Ao119, co119, eo119⟩ := Kd.R_slice HO_8.out
       (first | subst eo119 | (injection eo119 with f1_ f2_ f3_; have f4_ := f1_.symm; have f5_ := f3_.symm; clear f1_ f2_ f3_; subst f4_; subst f5_))
       have q120 : ((ji108) : Int) ≤ ((x8_2.length : Int) : Int) := oda
       obtain ⟨i0120, hi0120, _, hsz120, _⟩ := info_parts info3
       have hcut120 := cut_to (P := Try.prog) 62 3 .i64 Try.underlying62 hi0120 Ao119 x8_2.length co119 (ji108) (oda) q120 (Kd.R_reads' HO_8.out).2.1
       have hr120 := Kd.R_take (m := ((ji108) : Int).toNat) HO_8.out (by omega)
       have hy120 : y203.length = ((ji108) : Int).toNat := (by rw [Ny203.out, List.length_take]; omega)
       rw [← Ny203.out] at hr120
       rw [← hy120] at hr120 hcut120
       clear hy120 hi0120 hsz120 HO_8
       have HO205 := ak hr120
       clear hr120
       replace q120 := eq_true q120
       have q121 : ((ji104) : Int) ≤ ((x9_2.length : Int) : Int) := oda
       obtain ⟨i0121, hi0121, _, hsz121, _⟩ := info_parts info51
       have hcut121 := cut_to (P := Try.prog) 26 51 .i64 Try.underlying26 hi0121 (some ad196) x9_2.length co113 (ji104) (oda) q121 (Kd.R_reads' HO_9.out).2.1
       have hr121 := Kd.R_take (m := ((ji104) : Int).toNat) HO_9.out (by omega)
       have hy121 : y206.length = ((ji104) : Int).toNat := (by rw [Ny206.out, List.length_take]; omega)
       rw [← Ny206.out] at hr121
       rw [← hy121] at hr121 hcut121
       clear hy121 hi0121 hsz121 HO_9
       have HO208 := ak hr121
       clear hr121
       replace q121 := eq_true q121
       refine start_ (n := 12) (S := fun w' => True) (ds := []) #[false, false, false, false, false, false, false, false, false, false, false, false] (by kernel_rfl) rfl rfl trivial (fun hHeld => ?_); refine with_tabW euler_circuit.tab16 euler_circuit.bits16 (fun HT_ HW_ => ?_)
       generalize w116.drew = w118 at HO_2 HO_7 HO_8 HO_9 HL194_0 HO199 HO202 BK183 HK HB HO205 HO208 hHeld ⊢
       refine pure_ (i := 0) (N := some 92) (v := ?_) (a' := ?_) #[true, false, false, false, false, false, false, false, false, false, false, false] rfl rfl (any_of HT_.out (by kernel_rfl)) (fun _ _ _ h => h) (Or.inl ⟨by rfl, ?_⟩) ?_ ?_; rotate_left; intro w'; go_simp; with_reducible rfl; rotate_left; simp only [Act.put, List.setIfInBounds_toArray, List.set_cons_zero, List.set_cons_succ, i64_w, i32_w]; rfl
       refine pure_ (i := 1) (N := some 93) (v := ?_) (a' := ?_) #[true, true, false, false, false, false, false, false, false, false, false, false] rfl rfl (any_of HT_.out (by kernel_rfl)) (fun _ _ _ h => h) (Or.inl ⟨by rfl, ?_⟩) ?_ ?_; rotate_left; intro w'; go_simp; with_reducible rfl; rotate_left; simp only [Act.put, List.setIfInBounds_toArray, List.set_cons_zero, List.set_cons_succ, i64_w, i32_w]; rfl
       refine pure_ (i := 2) (N := some 94) (v := ?_) (a' := ?_) #[true, true, true, false, false, false, false, false, false, false, false, false] rfl rfl (any_of HT_.out (by kernel_rfl)) (fun _ _ _ h => h) (Or.inl ⟨by rfl, ?_⟩) ?_ ?_; rotate_left; intro w'; go_simp; with_reducible rfl; rotate_left; simp only [Act.put, List.setIfInBounds_toArray, List.set_cons_zero, List.set_cons_succ, i64_w, i32_w]; rfl
       refine pure_ (i := 3) (N := some 95) (v := ?_) (a' := ?_) #[true, true, true, true, false, false, false, false, false, false, false, false] rfl rfl (any_of HT_.out (by kernel_rfl)) (fun _ _ _ h => h) (Or.inl ⟨by rfl, ?_⟩) ?_ ?_; rotate_left; intro w'; go_simp; with_reducible rfl; rotate_left; simp only [Act.put, List.setIfInBounds_toArray, List.set_cons_zero, List.set_cons_succ, i64_w, i32_w]; rfl
       refine pure_ (i := 4) (N := some 96) (v := ?_) (a' := ?_) #[true, true, true, true, true, false, false, false, false, false, false, false] rfl rfl (any_of HT_.out (by kernel_rfl)) (fun _ _ _ h => h) (Or.inl ⟨by rfl, ?_⟩) ?_ ?_; rotate_left; intro w'; go_simp; with_reducible rfl; rotate_left; simp only [Act.put, List.setIfInBounds_toArray, List.set_cons_zero, List.set_cons_succ, i64_w, i32_w]; rfl
       refine pure_ (i := 5) (N := some 97) (v := ?_) (a' := ?_) #[true, true, true, true, true, true, false, false, false, false, false, false] rfl rfl (any_of HT_.out (by kernel_rfl)) (fun _ _ _ h => h) (Or.inl ⟨by rfl, ?_⟩) ?_ ?_; rotate_left; intro w'; go_simp; with_reducible rfl; rotate_left; simp only [Act.put, List.setIfInBounds_toArray, List.set_cons_zero, List.set_cons_succ, i64_w, i32_w]; rfl
       refine pure_ (i := 6) (N := some 98) (v := ?_) (a' := ?_) #[true, true, true, true, true, true, true, false, false, false, false, false] rfl rfl (any_of HT_.out (by kernel_rfl)) (fun _ _ _ h => h) (Or.inl ⟨by rfl, ?_⟩) ?_ ?_; rotate_left; intro w'; go_simp; with_reducible rfl; rotate_left; simp only [Act.put, List.setIfInBounds_toArray, List.set_cons_zero, List.set_cons_succ, i64_w, i32_w]; rfl
       refine pure_ (i := 7) (N := some 99) (v := ?_) (a' := ?_) #[true, true, true, true, true, true, true, true, false, false, false, false] rfl rfl (any_of HT_.out (by kernel_rfl)) (fun _ _ _ h => h) (Or.inl ⟨by rfl, ?_⟩) ?_ ?_; rotate_left; intro w'; go_simp; with_reducible rfl; rotate_left; simp only [Act.put, List.setIfInBounds_toArray, List.set_cons_zero, List.set_cons_succ, i64_w, i32_w]; rfl
       refine pure_ (i := 8) (N := some 100) (v := ?_) (a' := ?_) #[true, true, true, true, true, true, true, true, true, false, false, false] rfl rfl (any_of HT_.out (by kernel_rfl)) (fun _ _ _ h => h) (Or.inl ⟨by rfl, ?_⟩) ?_ ?_; rotate_left; intro w'; go_simp; with_reducible rfl; rotate_left; simp only [Act.put, List.setIfInBounds_toArray, List.set_cons_zero, List.set_cons_succ, i64_w, i32_w]; rfl
       refine pure_ (i := 9) (N := some 101) (v := ?_) (a' := ?_) #[true, true, true, true, true, true, true, true, true, true, false, false] rfl rfl (any_of HT_.out (by kernel_rfl)) (fun _ _ _ h => h) (Or.inl ⟨by rfl, ?_⟩) ?_ ?_; rotate_left; intro w'; go_simp; with_reducible rfl; rotate_left; simp only [Act.put, List.setIfInBounds_toArray, List.set_cons_zero, List.set_cons_succ, i64_w, i32_w]; rfl
       refine pure_ (i := 10) (N := some 8) (v := ?_) (a' := ?_) #[true, true, true, true, true, true, true, true, true, true, true, false] rfl rfl (any_of HT_.out (by kernel_rfl)) (fun _ _ _ h => h) (Or.inl ⟨by rfl, ?_⟩) ?_ ?_; rotate_left; intro w'; go_simp; with_reducible rfl; rotate_left; simp only [Act.put, List.setIfInBounds_toArray, List.set_cons_zero, List.set_cons_succ, i64_w, i32_w]; rfl
       refine pure_ (i := 11) (N := some 9) (v := ?_) (a' := ?_) #[true, true, true, true, true, true, true, true, true, true, true, true] rfl rfl (any_of HT_.out (by kernel_rfl)) (fun _ _ _ h => h) (Or.inl ⟨by rfl, ?_⟩) ?_ ?_; rotate_left; intro w'; go_simp; with_reducible rfl; rotate_left; simp only [Act.put, List.setIfInBounds_toArray, List.set_cons_zero, List.set_cons_succ, i64_w, i32_w]; rfl
       refine done_ (done_of HT_.out (by kernel_rfl)) ?_
       try go_wp2_with (first | go_step3 | (with_reducible refine Eq.mpr Exit.noGoto_normal ?_) | (with_reducible refine Eq.mpr Exit.noGoto_ret ?_) | (with_reducible refine Eq.mpr (Exit.noGoto_exit _) ?_))
       go_roundg k2
       case measure => have := HK1.out; have := HK2.out; omega
       case rel => exact ⟨(x2_2), (x7_2), (y203), (y206), (y200), H', ⟨by have := HK1.out; have := HK2.out; omega⟩, ⟨by exact nx (Kd.N_mono HO_2.out (fun _ hk => ⟨hk.1.1, ⟨hk.1.2.1, ⟨(by first | exact hk.1.2.2.1 | exact owb hk.1.2.2.1), ⟨(by first | exact hk.1.2.2.2.1 | exact owb hk.1.2.2.2.1), ⟨hk.2, hk.1.2.2.2.2.2⟩⟩⟩⟩⟩))⟩, ⟨rx HO_7.out⟩, ⟨rx HO205.out⟩, ⟨by exact rx (Kd.R_mono HO208.out (fun _ hk => ⟨hk.1.1, hk.2⟩))⟩, ⟨by exact rx (Kd.R_mono HO202.out (fun _ hk => ⟨hk.1, hk.2.1⟩))⟩, ⟨bx BK183.out⟩, ⟨lk⟩, ⟨lb⟩⟩
end Go.Proofs.Ytplbkggdnonfbaa.Q
