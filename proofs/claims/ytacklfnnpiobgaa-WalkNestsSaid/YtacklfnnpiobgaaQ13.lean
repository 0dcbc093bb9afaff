-- PRINTED by print.py (a twelfth state) out of the translation. Not trusted: Lean checks it.
import Derived.Test.YtacklfnnpiobgaaQ0
import Derived.Test.YtacklfnnpiobgaaQ11
import Derived.Test.YtacklfnnpiobgaaQ12
namespace Go.Proofs.Ytacklfnnpiobgaa.Q
open Go.RowKit Go.Proofs.YtacklfnnpiobgaaW.PrintWords Go.Proofs.YtacklfnnpiobgaaW.PrintLast Go.Proofs.YtacklfnnpiobgaaW.PrintMore
attribute [local go_sem] max2_int min2_int max_two min_two max_three min_three max_four min_four   -- for this text's walks alone
set_option linter.unusedVariables false
set_option linter.unusedSimpArgs false

/-! ### compassref04_Visit: function 20 -/
mutual
def compassref04_Visit.l0 : Nat → Int → Int → List (S41) → List Int → List Int → Int → Option (List Int × List Int × Int)
  | 0, _, _, _, _, _, _ => none
  | k + 1, x8, x255000, x255001, x264000, x264001, x264002 => if x8 < x255000 then (if 0 ≤ x8 then (if x8 < (x264000.length : Int) then (if x8 < (x264001.length : Int) then (compassref04_Visit.l0 k (wrap64 (x8 + 1)) x255000 x255001 (x264000.set (x8 : Int).toNat (-1)) (x264001.set (x8 : Int).toNat (-1)) x264002) else (none)) else (none)) else (none)) else (compassref04_Visit.l1 k 0 x255000 x255001 x264000 x264001 x264002)
def compassref04_Visit.l1 : Nat → Int → Int → List (S41) → List Int → List Int → Int → Option (List Int × List Int × Int)
  | 0, _, _, _, _, _, _ => none
  | k + 1, x9, x255000, x255001, x264000, x264001, x264002 => if x9 < x255000 then (if 0 ≤ x9 then (if x9 < (x264000.length : Int) then (if (rd x264000 x9) < 0 then ((compassref04_visit.f k x255000 x255001 x264000 x264001 x264002 x9).bind fun bt267 => (compassref04_Visit.l1 k (wrap64 (x9 + 1)) x255000 x255001 bt267.1 bt267.2.1 bt267.2.2)) else (compassref04_Visit.l1 k (wrap64 (x9 + 1)) x255000 x255001 x264000 x264001 x264002)) else (none)) else (none)) else (some (x264000, x264001, 0))
end
def compassref04_Visit.f (k : Nat) (a0_0 : Int) (l0_1 : List (S41)) : Option (List Int × List Int × Int) := (compassref03_Check.f k a0_0 l0_1).bind fun bt255 => (if bt255.1 = 0 then (if 0 ≤ a0_0 then (if (a0_0 : Int).toNat ≤ 35184372088832 then (compassref04_Visit.l0 k 0 a0_0 l0_1 (List.replicate (a0_0 : Int).toNat 0) (List.replicate (a0_0 : Int).toNat 0) 0) else (none)) else (none)) else (some (([] : List Int), ([] : List Int), bt255.1)))
theorem compassref04_Visit.mono_l : ∀ k, (∀ y0 y1 y2 y3 y4 y5, LeO (compassref04_Visit.l0 k y0 y1 y2 y3 y4 y5) (compassref04_Visit.l0 (k + 1) y0 y1 y2 y3 y4 y5)) ∧ (∀ y0 y1 y2 y3 y4 y5, LeO (compassref04_Visit.l1 k y0 y1 y2 y3 y4 y5) (compassref04_Visit.l1 (k + 1) y0 y1 y2 y3 y4 y5))
  | 0 => ⟨fun _ _ _ _ _ _ r h => by simp [compassref04_Visit.l0] at h, fun _ _ _ _ _ _ r h => by simp [compassref04_Visit.l1] at h⟩
  | k + 1 => by
    obtain ⟨ih0, ih1⟩ := compassref04_Visit.mono_l k
    refine ⟨?_, ?_⟩
    · intro y0 y1 y2 y3 y4 y5
      unfold compassref04_Visit.l0
      repeat' first
      | (with_reducible exact ih0 _ _ _ _ _ _)
      | (with_reducible exact ih1 _ _ _ _ _ _)
      | (with_reducible exact compassref03_Check.mono _ _ _)
      | (with_reducible exact compassref04_visit.mono _ _ _ _ _ _ _)
      | (with_reducible exact LeO.refl _)
      | (with_reducible exact LeO.none _)
      | (with_reducible refine LeO.ite ?_ ?_)
      | (with_reducible refine LeO.bind ?_ (fun _ => ?_))
      | exact ih0 _ _ _ _ _ _
      | exact ih1 _ _ _ _ _ _
      | exact compassref03_Check.mono _ _ _
      | exact compassref04_visit.mono _ _ _ _ _ _ _
      | exact LeO.none _
      | refine LeO.ite ?_ ?_
      | refine LeO.bind ?_ (fun _ => ?_)
    · intro y0 y1 y2 y3 y4 y5
      unfold compassref04_Visit.l1
      repeat' first
      | (with_reducible exact ih0 _ _ _ _ _ _)
      | (with_reducible exact ih1 _ _ _ _ _ _)
      | (with_reducible exact compassref03_Check.mono _ _ _)
      | (with_reducible exact compassref04_visit.mono _ _ _ _ _ _ _)
      | (with_reducible exact LeO.refl _)
      | (with_reducible exact LeO.none _)
      | (with_reducible refine LeO.ite ?_ ?_)
      | (with_reducible refine LeO.bind ?_ (fun _ => ?_))
      | exact ih0 _ _ _ _ _ _
      | exact ih1 _ _ _ _ _ _
      | exact compassref03_Check.mono _ _ _
      | exact compassref04_visit.mono _ _ _ _ _ _ _
      | exact LeO.none _
      | refine LeO.ite ?_ ?_
      | refine LeO.bind ?_ (fun _ => ?_)
theorem compassref04_Visit.mono : ∀ a0 a1 k, LeO (compassref04_Visit.f k a0 a1) (compassref04_Visit.f (k + 1) a0 a1) := by
  intro a0 a1 k
  obtain ⟨ih0, ih1⟩ := compassref04_Visit.mono_l k
  unfold compassref04_Visit.f
  repeat' first
      | (with_reducible exact ih0 _ _ _ _ _ _)
      | (with_reducible exact ih1 _ _ _ _ _ _)
      | (with_reducible exact compassref03_Check.mono _ _ _)
      | (with_reducible exact compassref04_visit.mono _ _ _ _ _ _ _)
      | (with_reducible exact LeO.refl _)
      | (with_reducible exact LeO.none _)
      | (with_reducible refine LeO.ite ?_ ?_)
      | (with_reducible refine LeO.bind ?_ (fun _ => ?_))
      | exact ih0 _ _ _ _ _ _
      | exact ih1 _ _ _ _ _ _
      | exact compassref03_Check.mono _ _ _
      | exact compassref04_visit.mono _ _ _ _ _ _ _
      | exact LeO.none _
      | refine LeO.ite ?_ ?_
      | refine LeO.bind ?_ (fun _ => ?_)
def compassref04_Visit.T4 : Bool × List (List Nat × List Nat) := (true, [([], []), ([0], [0]), ([1, 1], [1]), ([], []), ([3], [3]), ([4, 4], [4]), ([2, 5], [2, 5]), ([], []), ([7, 6, 0, 1, 2, 3, 4, 5, 6, 7], [6, 7])])
def compassref04_Visit.B4 : List Nat := [0, 1, 3, 0, 8, 24, 63, 0, 255]
theorem compassref04_Visit.tab4 : rtab .any (opsOf Try.f20 4) = compassref04_Visit.T4 := by kernel_rfl
theorem compassref04_Visit.bits4 : waitsOk compassref04_Visit.T4.2 compassref04_Visit.B4 = true := by kernel_rfl
set_option maxHeartbeats 8000000 in
set_option maxRecDepth 100000 in
theorem compassref04_Visit.calls (k : Nat) (a0_0 : Int) (A0_1 : Option Addr) (c0_1 : Nat) (l0_1 : List (S41)) (r1 : List Int) (r2 : List Int) (r3 : Int) (w : World) (hr0_1 : Kd.C k41 w A0_1 l0_1.length l0_1) (hc0_1 : l0_1.length ≤ c0_1) (h : compassref04_Visit.f k a0_0 l0_1 = some (r1, r2, r3)) :
    Calls Try.prog 20 #[.agg #[.int .i64 a0_0, .slice A0_1 l0_1.length c0_1]] w fun e w' => ∃ v0_ v1_ : Value, e = .returned (.tuple #[v0_, v1_, .int .i64 r3]) ∧ Kd.R (Kd.int .i64) 3 w' w.heap.size (fun k_ => some k_ ≠ (v1_ : Value).ownBlock) v0_ r1 ∧ Kd.R (Kd.int .i64) 3 w' w.heap.size (fun k_ => some k_ ≠ (v0_ : Value).ownBlock) v1_ r2 ∧ Below w.heap.size w w' := by
 have hu24 := Try.underlying24
 have hu66 := Try.underlying66
 have HR0_1 := ak hr0_1
 have HC0_1 := ak hc0_1
 clear hr0_1 hc0_1
 have HB := ak (Below.refl w.heap.size w)
 have H : ((compassref03_Check.f k a0_0 l0_1).bind fun bt255 => (if bt255.1 = 0 then (if 0 ≤ a0_0 then (if (a0_0 : Int).toNat ≤ 35184372088832 then (compassref04_Visit.l0 k 0 a0_0 l0_1 (List.replicate (a0_0 : Int).toNat 0) (List.replicate (a0_0 : Int).toNat 0) 0) else (none)) else (none)) else (some (([] : List Int), ([] : List Int), bt255.1)))) = some (r1, r2, r3) := h
 clear h
 replace H := Option.bind_eq_some_iff.mp H
 obtain ⟨⟨t255, t256⟩, A20, H⟩ := H
 replace H : (if t255 = 0 then (if 0 ≤ a0_0 then (if (a0_0 : Int).toNat ≤ 35184372088832 then (compassref04_Visit.l0 k 0 a0_0 l0_1 (List.replicate (a0_0 : Int).toNat 0) (List.replicate (a0_0 : Int).toNat 0) 0) else (none)) else (none)) else (some (([] : List Int), ([] : List Int), t255))) = some (r1, r2, r3) := H
 have A2 := ak A20
 clear A20
 by_cases c3 : t255 = 0
 ·
  rw [if_pos c3] at H
  have c3b0 : (t255 == 0) = true := beq_iff_eq.mpr c3
  have c3b1 : (t255 != 0) = false := bne_eq_false_iff_eq.mpr c3
  clear c3
  by_cases c4 : 0 ≤ a0_0
  rotate_left
  ·
   rw [if_neg c4] at H
   exact absurd H (by simp)
  rw [if_pos c4] at H
  have c4b0 := eq_true c4
  have c4b1 : decide (0 ≤ a0_0) = true := decide_eq_true c4
  clear c4
  by_cases c5 : (a0_0 : Int).toNat ≤ 35184372088832
  rotate_left
  ·
   rw [if_neg c5] at H
   exact absurd H (by simp)
  rw [if_pos c5] at H
  have c5b0 := eq_true c5
  have c5b1 : decide ((a0_0 : Int).toNat ≤ 35184372088832) = true := decide_eq_true c5
  clear c5
  obtain ⟨y257, hy257⟩ : ∃ y_ : List Int, y_ = (List.replicate (a0_0 : Int).toNat 0) := ⟨_, rfl⟩
  replace H : (compassref04_Visit.l0 k 0 a0_0 l0_1 y257 (List.replicate (a0_0 : Int).toNat 0) 0) = some (r1, r2, r3) := by first | (rw [hy257]; exact H) | exact H
  have Ny257 := ak hy257
  clear hy257
  obtain ⟨y260, hy260⟩ : ∃ y_ : List Int, y_ = (List.replicate (a0_0 : Int).toNat 0) := ⟨_, rfl⟩
  replace H : (compassref04_Visit.l0 k 0 a0_0 l0_1 y257 y260 0) = some (r1, r2, r3) := by first | (rw [hy260]; exact H) | exact H
  have Ny260 := ak hy260
  clear hy260
  have H' := ak H
  clear H
  go_enter Try.func20, Try.ntmps20
  try go_wp2_with (first | ((with_reducible refine gate_dst (N := 1) rfl ?_); refine box_event ?hg (N := 1) ?hd (cs := #[.int .i64 a0_0, .slice A0_1 l0_1.length c0_1]) (t := 24) ?hr ?_; (case hd => rfl); (case hg => rfl); (case hr => first | (go_simp; done) | (go_simp; rfl)); intro gb254 hg w6 hbox hb; have n0_ := ak (below_step lb hb); have n1_ := ak (hbox); have n2_ := ak ((by rw [hg]; exact (below_size lb) : w.heap.size ≤ gb254)); have n3_ := ak ((by rw [hg]; exact (below_size lb) : w.heap.size ≤ gb254)); clear HB; have HB := n0_; have BK254 := n1_; have GW254 := n2_; have GE254 := n3_; clear n0_ n1_ n2_ n3_; clear hb hbox hg; have hcz7_0 : w6.cell? ⟨gb254, 0, none⟩ = some (.int .i64 a0_0) := (blk_cell BK254.out 0).trans rfl; have hcz7_1 : w6.cell? ⟨gb254, 1, none⟩ = some (.slice A0_1 l0_1.length c0_1) := (blk_cell BK254.out 1).trans rfl; have hfz7_0 := blk_frozen BK254.out 0; have hfz7_1 := blk_frozen BK254.out 1) | ((with_reducible refine gate_callee (f := 34) rfl ?_); refine goesL_ (some 12) rfl rfl Try.func34 (by kernel_rfl) rfl #[.agg #[.int .i64 a0_0, .slice A0_1 l0_1.length c0_1]] rfl (by (try simp only [List.map_toArray, List.map_cons, List.map_nil]); first | done | rfl | (simp only [List.length_drop, List.length_take]; rfl)) ?_; (with_reducible refine (compassref03_Check.calls k a0_0 _ _ l0_1 t255 t256 _ ?side1 ?side2 A2.out).mono ?_); (case side1 => repeat (first | exact (Kd.C_below HR0_1.out HB.out) | (with_reducible refine Kd.C_alloc ?_ _) | (with_reducible refine Kd.C_drewN ?_ _) | (with_reducible refine Kd.C_drew ?_))); (case side2 => exact HC0_1.out); rintro e w8 ⟨rfl, hb⟩; refine ⟨_, rfl, ?_⟩; have n0_ := ak (blk_below (bx BK254.out) hb); have n1_ := ak (below_step lb hb); clear BK254; clear HB; have BK254 := n0_; have HB := n1_; clear n0_ n1_; (try clear hb); (try clear hb2); (try clear hk); (try clear hi)))
  have n0_ := ak (blk_drew BK254.out)
  have n1_ := ak (below_drew1 HB.out)
  clear BK254
  clear HB
  have BK254 := n0_
  have HB := n1_
  clear n0_ n1_
  refine start_ (n := 9) (S := fun w' => w'.cell? ⟨gb254, 0, none⟩ = some (.int .i64 a0_0) ∧ w'.cell? ⟨gb254, 1, none⟩ = some (.slice A0_1 l0_1.length c0_1)) (ds := []) #[false, false, false, false, false, false, false, false, false] (by kernel_rfl) rfl rfl ⟨(blk_cell BK254.out 0).trans rfl, (blk_cell BK254.out 1).trans rfl⟩ (fun hHeld => ?_); refine with_tabW compassref04_Visit.tab4 compassref04_Visit.bits4 (fun HT_ HW_ => ?_)
  generalize w8.drew = w9 at BK254 HB hHeld ⊢
  refine pure_ (i := 0) (N := some 18) (v := ?_) (a' := ?_) #[true, false, false, false, false, false, false, false, false] rfl rfl (any_of HT_.out (by kernel_rfl)) (fun _ _ _ h => h) (Or.inl ⟨by rfl, ?_⟩) ?_ ?_; rotate_left; intro w'; go_simp; with_reducible rfl; rotate_left; simp only [Act.put, List.setIfInBounds_toArray, List.set_cons_zero, List.set_cons_succ, i64_w, i32_w]; rfl
  refine pure_ (i := 3) (N := some 21) (v := ?_) (a' := ?_) #[true, false, false, true, false, false, false, false, false] rfl rfl (any_of HT_.out (by kernel_rfl)) (fun _ _ _ h => h) (Or.inl ⟨by rfl, ?_⟩) ?_ ?_; rotate_left; intro w'; go_simp; with_reducible rfl; rotate_left; simp only [Act.put, List.setIfInBounds_toArray, List.set_cons_zero, List.set_cons_succ, i64_w, i32_w]; rfl
  refine take_ (i := 1) (N := some 19) (v := ?_) (a' := ?_) #[true, true, false, true, false, false, false, false, false] rfl rfl (take_ofW HT_.out HW_.out (by kernel_rfl)) (fun _ _ _ h => h) (Or.inl ⟨by rfl, ?_⟩) hHeld ?_ ?_; rotate_left; rintro w' ⟨s0, s1⟩; go_simp; with_reducible rfl; rotate_left; simp only [Act.put, List.setIfInBounds_toArray, List.set_cons_zero, List.set_cons_succ, i64_w, i32_w]; rfl
  refine take_ (i := 4) (N := some 22) (v := ?_) (a' := ?_) #[true, true, false, true, true, false, false, false, false] rfl rfl (take_ofW HT_.out HW_.out (by kernel_rfl)) (fun _ _ _ h => h) (Or.inl ⟨by rfl, ?_⟩) hHeld ?_ ?_; rotate_left; rintro w' ⟨s0, s1⟩; go_simp; with_reducible rfl; rotate_left; simp only [Act.put, List.setIfInBounds_toArray, List.set_cons_zero, List.set_cons_succ, i64_w, i32_w]; rfl
  refine join_ (σ := Value × Value × Nat) 1 #[true, true, true, true, true, true, true, true, false] (fun s_ => [(20, s_.1), (23, s_.2.1), (7, .pointer (some ⟨s_.2.2, 0, none⟩)), (24, .agg #[s_.1, s_.2.1, .int .i64 0])]) (fun s_ w' => (w'.cell? ⟨gb254, 0, none⟩ = some (.int .i64 a0_0) ∧ w'.cell? ⟨gb254, 1, none⟩ = some (.slice A0_1 l0_1.length c0_1)) ∧ (Kd.R (Kd.int .i64) 3 w' w.heap.size (fun k_ => some k_ ≠ (s_.2.1 : Value).ownBlock) s_.1 y257) ∧ (Kd.R (Kd.int .i64) 3 w' w.heap.size (fun k_ => some k_ ≠ (s_.1 : Value).ownBlock) s_.2.1 y260) ∧ (w'.heap[gb254]? = some (.cells #[.int .i64 a0_0, .slice A0_1 l0_1.length c0_1] 24 (0, 0))) ∧ (w'.heap[s_.2.2]? = some (.cells #[.slice none 0 0, .slice none 0 0, .int .i64 0] 66 (0, 0))) ∧ (w.heap.size ≤ s_.2.2) ∧ (w.heap.size ≤ s_.2.2) ∧ (gb254 ≠ s_.2.2) ∧ (s_.2.2 ≠ gb254) ∧ (Below w.heap.size w w')) ?_ ?_
  rotate_left
  ·
   intro hJ2_5_7
   refine join_ (σ := Value × Value) 2 #[true, true, true, true, true, true, true, false, false] (fun s_ => [(20, s_.1), (23, s_.2), (24, .agg #[s_.1, s_.2, .int .i64 0])]) (fun s_ w' => (w'.cell? ⟨gb254, 0, none⟩ = some (.int .i64 a0_0) ∧ w'.cell? ⟨gb254, 1, none⟩ = some (.slice A0_1 l0_1.length c0_1)) ∧ (Kd.R (Kd.int .i64) 3 w' w.heap.size (fun k_ => some k_ ≠ (s_.2 : Value).ownBlock) s_.1 y257) ∧ (Kd.R (Kd.int .i64) 3 w' w.heap.size (fun k_ => some k_ ≠ (s_.1 : Value).ownBlock) s_.2 y260) ∧ (w'.heap[gb254]? = some (.cells #[.int .i64 a0_0, .slice A0_1 l0_1.length c0_1] 24 (0, 0))) ∧ (Below w.heap.size w w')) ?_ ?_
   rotate_left
   ·
    intro hJ2_5
    refine join_ (σ := Value × Nat) 3 #[true, true, true, true, true, false, false, true, false] (fun s_ => [(20, s_.1), (7, .pointer (some ⟨s_.2, 0, none⟩))]) (fun s_ w' => (w'.cell? ⟨gb254, 0, none⟩ = some (.int .i64 a0_0) ∧ w'.cell? ⟨gb254, 1, none⟩ = some (.slice A0_1 l0_1.length c0_1)) ∧ (Kd.R (Kd.int .i64) 3 w' w.heap.size (fun _ => True) s_.1 y257) ∧ (w'.heap[gb254]? = some (.cells #[.int .i64 a0_0, .slice A0_1 l0_1.length c0_1] 24 (0, 0))) ∧ (w'.heap[s_.2]? = some (.cells #[.slice none 0 0, .slice none 0 0, .int .i64 0] 66 (0, 0))) ∧ (w.heap.size ≤ s_.2) ∧ (w.heap.size ≤ s_.2) ∧ (gb254 ≠ s_.2) ∧ (s_.2 ≠ gb254) ∧ (Below w.heap.size w w')) ?_ ?_
    rotate_left
    ·
     intro hJ2_7
     refine join_ (σ := Value × Nat) 3 #[true, true, false, true, true, true, false, true, false] (fun s_ => [(23, s_.1), (7, .pointer (some ⟨s_.2, 0, none⟩))]) (fun s_ w' => (w'.cell? ⟨gb254, 0, none⟩ = some (.int .i64 a0_0) ∧ w'.cell? ⟨gb254, 1, none⟩ = some (.slice A0_1 l0_1.length c0_1)) ∧ (Kd.R (Kd.int .i64) 3 w' w.heap.size (fun _ => True) s_.1 y260) ∧ (w'.heap[gb254]? = some (.cells #[.int .i64 a0_0, .slice A0_1 l0_1.length c0_1] 24 (0, 0))) ∧ (w'.heap[s_.2]? = some (.cells #[.slice none 0 0, .slice none 0 0, .int .i64 0] 66 (0, 0))) ∧ (w.heap.size ≤ s_.2) ∧ (w.heap.size ≤ s_.2) ∧ (gb254 ≠ s_.2) ∧ (s_.2 ≠ gb254) ∧ (Below w.heap.size w w')) ?_ ?_
     rotate_left
     ·
      intro hJ5_7
      refine join_ (σ := Value) 4 #[true, true, true, true, true, false, false, false, false] (fun s_ => [(20, s_)]) (fun s_ w' => (w'.cell? ⟨gb254, 0, none⟩ = some (.int .i64 a0_0) ∧ w'.cell? ⟨gb254, 1, none⟩ = some (.slice A0_1 l0_1.length c0_1)) ∧ (Kd.R (Kd.int .i64) 3 w' w.heap.size (fun _ => True) s_ y257) ∧ (w'.heap[gb254]? = some (.cells #[.int .i64 a0_0, .slice A0_1 l0_1.length c0_1] 24 (0, 0))) ∧ (Below w.heap.size w w')) ?_ ?_
      rotate_left
      ·
       intro hJ2
       refine join_ (σ := Value) 4 #[true, true, false, true, true, true, false, false, false] (fun s_ => [(23, s_)]) (fun s_ w' => (w'.cell? ⟨gb254, 0, none⟩ = some (.int .i64 a0_0) ∧ w'.cell? ⟨gb254, 1, none⟩ = some (.slice A0_1 l0_1.length c0_1)) ∧ (Kd.R (Kd.int .i64) 3 w' w.heap.size (fun _ => True) s_ y260) ∧ (w'.heap[gb254]? = some (.cells #[.int .i64 a0_0, .slice A0_1 l0_1.length c0_1] 24 (0, 0))) ∧ (Below w.heap.size w w')) ?_ ?_
       rotate_left
       ·
        intro hJ5
        refine join_ (σ := Nat) 4 #[true, true, false, true, true, false, false, true, false] (fun s_ => [(7, .pointer (some ⟨s_, 0, none⟩))]) (fun s_ w' => (w'.cell? ⟨gb254, 0, none⟩ = some (.int .i64 a0_0) ∧ w'.cell? ⟨gb254, 1, none⟩ = some (.slice A0_1 l0_1.length c0_1)) ∧ (w'.heap[gb254]? = some (.cells #[.int .i64 a0_0, .slice A0_1 l0_1.length c0_1] 24 (0, 0))) ∧ (w'.heap[s_]? = some (.cells #[.slice none 0 0, .slice none 0 0, .int .i64 0] 66 (0, 0))) ∧ (w.heap.size ≤ s_) ∧ (w.heap.size ≤ s_) ∧ (gb254 ≠ s_) ∧ (s_ ≠ gb254) ∧ (Below w.heap.size w w')) ?_ ?_
        rotate_left
        ·
         intro hJ7
         refine three_ (i := 2) (j := 5) (k := 7) (Ni := some 20) (Nj := some 23) (Nk := some 7) #[true, true, true, true, true, false, false, false, false] #[true, true, false, true, true, true, false, false, false] #[true, true, false, true, true, false, false, true, false] rfl rfl rfl rfl rfl rfl (three_of HT_.out (by kernel_rfl)) (by decide) (by decide) (by decide) (fun K hK => ?_) (fun K hK => ?_) (fun K hK => ?_)
         ·
          skip
          refine Kd.R_make_step (Kd.int .i64) _ 3 (by rfl) (N := 20) rfl 26 _ _ rfl a0_0 rfl rfl Try.underlying26 (.int .i64 0) 8 info3 rfl (by decide) (by omega) 0 (ok := fun _ => True) (okp := fun _ => True) rfl (fun _ hk => hk) trivial (oda) (Nat.le_trans (Nat.mul_le_mul_right _ (oda : a0_0.toNat ≤ 35184372088832)) (by omega)) (Below.refl _ _) (Nat.le_refl _) ?_
          intro v258 w10 ho11 hb hg_ hnew_
          clear hg_ hnew_
          (first | rw [← Ny257.out] at ho11 | (simp only [Int.reduceToNat] at ho11; rw [← Ny257.out] at ho11))
          have n0_ := ak (Kd.R_lower ho11 (below_size lb))
          have n1_ := ak (blk_below (bx BK254.out) hb)
          have n2_ := ak (below_step lb hb)
          clear BK254
          clear HB
          have HO259 := n0_
          have BK254 := n1_
          have HB := n2_
          clear n0_ n1_ n2_
          clear hb ho11
          refine hK.out _ _ ⟨(blk_cell BK254.out 0).trans rfl, (blk_cell BK254.out 1).trans rfl⟩ (fun hHeld => ?_)
          clear hK K
          refine norm_ (a' := ?_) ?_ ?_
          rotate_left
          ·
           show Act.put _ (some 20) _ = _
           simp only [Act.put, List.setIfInBounds_toArray, List.set_cons_zero, List.set_cons_succ, i64_w, i32_w]
           rfl
          exact norm_ (by first | (simp only [putAll, Act.put, List.setIfInBounds_toArray, List.set_cons_zero, List.set_cons_succ]; done) | (simp only [putAll, Act.put, List.setIfInBounds_toArray, List.set_cons_zero, List.set_cons_succ]; rfl)) (hJ2 (v258) _ ⟨hHeld, (rx HO259.out), (bx BK254.out), lb⟩)
         ·
          skip
          refine Kd.R_make_step (Kd.int .i64) _ 3 (by rfl) (N := 23) rfl 26 _ _ rfl a0_0 rfl rfl Try.underlying26 (.int .i64 0) 8 info3 rfl (by decide) (by omega) 0 (ok := fun _ => True) (okp := fun _ => True) rfl (fun _ hk => hk) trivial (oda) (Nat.le_trans (Nat.mul_le_mul_right _ (oda : a0_0.toNat ≤ 35184372088832)) (by omega)) (Below.refl _ _) (Nat.le_refl _) ?_
          intro v261 w10 ho11 hb hg_ hnew_
          clear hg_ hnew_
          (first | rw [← Ny260.out] at ho11 | (simp only [Int.reduceToNat] at ho11; rw [← Ny260.out] at ho11))
          have n0_ := ak (Kd.R_lower ho11 (below_size lb))
          have n1_ := ak (blk_below (bx BK254.out) hb)
          have n2_ := ak (below_step lb hb)
          clear BK254
          clear HB
          have HO262 := n0_
          have BK254 := n1_
          have HB := n2_
          clear n0_ n1_ n2_
          clear hb ho11
          refine hK.out _ _ ⟨(blk_cell BK254.out 0).trans rfl, (blk_cell BK254.out 1).trans rfl⟩ (fun hHeld => ?_)
          clear hK K
          refine norm_ (a' := ?_) ?_ ?_
          rotate_left
          ·
           show Act.put _ (some 23) _ = _
           simp only [Act.put, List.setIfInBounds_toArray, List.set_cons_zero, List.set_cons_succ, i64_w, i32_w]
           rfl
          exact norm_ (by first | (simp only [putAll, Act.put, List.setIfInBounds_toArray, List.set_cons_zero, List.set_cons_succ]; done) | (simp only [putAll, Act.put, List.setIfInBounds_toArray, List.set_cons_zero, List.set_cons_succ]; rfl)) (hJ5 (v261) _ ⟨hHeld, (rx HO262.out), (bx BK254.out), lb⟩)
         ·
          skip
          refine box_step ?hg (N := 7) ?hd (cs := #[.slice none 0 0, .slice none 0 0, .int .i64 0]) (t := 66) ?hr ?_; (case hd => rfl); (case hg => rfl); (case hr => first | (go_simp; done) | (go_simp; rfl))
          intro gb263 hg w10 hbox hb
          have n0_ := ak (blk_below (bx BK254.out) hb)
          have n1_ := ak (below_step lb hb)
          have n2_ := ak (hbox)
          have n3_ := ak ((by rw [hg]; exact (below_size lb) : w.heap.size ≤ gb263))
          have n4_ := ak ((by rw [hg]; exact (below_size lb) : w.heap.size ≤ gb263))
          have n5_ := ak ((by rw [hg]; exact Nat.ne_of_lt (blk_lt (g := gb254) (o := .cells #[.int .i64 a0_0, .slice A0_1 l0_1.length c0_1] 24 (0, 0)) (bx BK254.out)) : gb254 ≠ gb263))
          have n6_ := ak ((by rw [hg]; exact Nat.ne_of_gt (blk_lt (g := gb254) (o := .cells #[.int .i64 a0_0, .slice A0_1 l0_1.length c0_1] 24 (0, 0)) (bx BK254.out)) : gb263 ≠ gb254))
          clear BK254
          clear HB
          have BK254 := n0_
          have HB := n1_
          have BK263 := n2_
          have GW263 := n3_
          have GE263 := n4_
          have NB254_263 := n5_
          have NB263_254 := n6_
          clear n0_ n1_ n2_ n3_ n4_ n5_ n6_
          clear hb hbox hg
          refine hK.out _ _ ⟨(blk_cell BK254.out 0).trans rfl, (blk_cell BK254.out 1).trans rfl⟩ (fun hHeld => ?_)
          clear hK K
          refine norm_ (a' := ?_) ?_ ?_
          rotate_left
          ·
           show Act.put _ (some 7) _ = _
           simp only [Act.put, List.setIfInBounds_toArray, List.set_cons_zero, List.set_cons_succ, i64_w, i32_w]
           rfl
          exact norm_ (by first | (simp only [putAll, Act.put, List.setIfInBounds_toArray, List.set_cons_zero, List.set_cons_succ]; done) | (simp only [putAll, Act.put, List.setIfInBounds_toArray, List.set_cons_zero, List.set_cons_succ]; rfl)) (hJ7 (gb263) _ ⟨hHeld, (bx BK254.out), (bx BK263.out), GW263.out, GE263.out, NB254_263.out, NB263_254.out, lb⟩)
        ·
         skip
         rintro gb263 w11 ⟨hS_, h0_, h1_, h2_, h3_, h4_, h5_, h6_⟩
         have n0_ : Aside0 (w11.heap[gb254]? = some (.cells #[.int .i64 a0_0, .slice A0_1 l0_1.length c0_1] 24 (0, 0))) := ⟨h0_⟩
         have n1_ : Aside0 (w11.heap[gb263]? = some (.cells #[.slice none 0 0, .slice none 0 0, .int .i64 0] 66 (0, 0))) := ⟨h1_⟩
         have n2_ : Aside0 (w.heap.size ≤ gb263) := ⟨h2_⟩
         have n3_ : Aside0 (w.heap.size ≤ gb263) := ⟨h3_⟩
         have n4_ : Aside0 (gb254 ≠ gb263) := ⟨h4_⟩
         have n5_ : Aside0 (gb263 ≠ gb254) := ⟨h5_⟩
         have n6_ : Aside0 (Below w.heap.size w w11) := ⟨h6_⟩
         clear BK254
         clear HB
         clear h0_ h1_ h2_ h3_ h4_ h5_ h6_
         have BK254 := n0_
         have BK263 := n1_
         have GW263 := n2_
         have GE263 := n3_
         have NB254_263 := n4_
         have NB263_254 := n5_
         have HB := n6_
         clear n0_ n1_ n2_ n3_ n4_ n5_ n6_
         have hHeld : w11.cell? ⟨gb254, 0, none⟩ = some (.int .i64 a0_0) ∧ w11.cell? ⟨gb254, 1, none⟩ = some (.slice A0_1 l0_1.length c0_1) := hS_
         refine norm_ (a' := ?_) ?_ ?_
         rotate_left
         ·
          simp only [putAll, Act.put, List.setIfInBounds_toArray, List.set_cons_zero, List.set_cons_succ]
          rfl
         refine two_ (i := 2) (j := 5) (Ni := some 20) (Nj := some 23) #[true, true, true, true, true, false, false, true, false] #[true, true, false, true, true, true, false, true, false] rfl rfl rfl rfl (two_of HT_.out (by kernel_rfl)) (by decide) (by decide) (fun K hK => ?_) (fun K hK => ?_)
         ·
          skip
          refine Kd.R_make_step (Kd.int .i64) _ 3 (by rfl) (N := 20) rfl 26 _ _ rfl a0_0 rfl rfl Try.underlying26 (.int .i64 0) 8 info3 rfl (by decide) (by omega) 0 (ok := fun _ => True) (okp := fun _ => True) rfl (fun _ hk => hk) trivial (oda) (Nat.le_trans (Nat.mul_le_mul_right _ (oda : a0_0.toNat ≤ 35184372088832)) (by omega)) (Below.refl _ _) (Nat.le_refl _) ?_
          intro v258 w12 ho13 hb hg_ hnew_
          clear hg_ hnew_
          (first | rw [← Ny257.out] at ho13 | (simp only [Int.reduceToNat] at ho13; rw [← Ny257.out] at ho13))
          have n0_ := ak (Kd.R_lower ho13 (below_size lb))
          have n1_ := ak (blk_below (bx BK254.out) hb)
          have n2_ := ak (blk_below (bx BK263.out) hb)
          have n3_ := ak (below_step lb hb)
          clear BK254
          clear BK263
          clear HB
          have HO259 := n0_
          have BK254 := n1_
          have BK263 := n2_
          have HB := n3_
          clear n0_ n1_ n2_ n3_
          clear hb ho13
          refine hK.out _ _ ⟨(blk_cell BK254.out 0).trans rfl, (blk_cell BK254.out 1).trans rfl⟩ (fun hHeld => ?_)
          clear hK K
          refine norm_ (a' := ?_) ?_ ?_
          rotate_left
          ·
           show Act.put _ (some 20) _ = _
           simp only [Act.put, List.setIfInBounds_toArray, List.set_cons_zero, List.set_cons_succ, i64_w, i32_w]
           rfl
          exact norm_ (by first | (simp only [putAll, Act.put, List.setIfInBounds_toArray, List.set_cons_zero, List.set_cons_succ]; done) | (simp only [putAll, Act.put, List.setIfInBounds_toArray, List.set_cons_zero, List.set_cons_succ]; rfl)) (hJ2_7 (v258, gb263) _ ⟨hHeld, (rx HO259.out), (bx BK254.out), (bx BK263.out), GW263.out, GE263.out, NB254_263.out, NB263_254.out, lb⟩)
         ·
          skip
          refine Kd.R_make_step (Kd.int .i64) _ 3 (by rfl) (N := 23) rfl 26 _ _ rfl a0_0 rfl rfl Try.underlying26 (.int .i64 0) 8 info3 rfl (by decide) (by omega) 0 (ok := fun _ => True) (okp := fun _ => True) rfl (fun _ hk => hk) trivial (oda) (Nat.le_trans (Nat.mul_le_mul_right _ (oda : a0_0.toNat ≤ 35184372088832)) (by omega)) (Below.refl _ _) (Nat.le_refl _) ?_
          intro v261 w12 ho13 hb hg_ hnew_
          clear hg_ hnew_
          (first | rw [← Ny260.out] at ho13 | (simp only [Int.reduceToNat] at ho13; rw [← Ny260.out] at ho13))
          have n0_ := ak (Kd.R_lower ho13 (below_size lb))
          have n1_ := ak (blk_below (bx BK254.out) hb)
          have n2_ := ak (blk_below (bx BK263.out) hb)
          have n3_ := ak (below_step lb hb)
          clear BK254
          clear BK263
          clear HB
          have HO262 := n0_
          have BK254 := n1_
          have BK263 := n2_
          have HB := n3_
          clear n0_ n1_ n2_ n3_
          clear hb ho13
          refine hK.out _ _ ⟨(blk_cell BK254.out 0).trans rfl, (blk_cell BK254.out 1).trans rfl⟩ (fun hHeld => ?_)
          clear hK K
          refine norm_ (a' := ?_) ?_ ?_
          rotate_left
          ·
           show Act.put _ (some 23) _ = _
           simp only [Act.put, List.setIfInBounds_toArray, List.set_cons_zero, List.set_cons_succ, i64_w, i32_w]
           rfl
          exact norm_ (by first | (simp only [putAll, Act.put, List.setIfInBounds_toArray, List.set_cons_zero, List.set_cons_succ]; done) | (simp only [putAll, Act.put, List.setIfInBounds_toArray, List.set_cons_zero, List.set_cons_succ]; rfl)) (hJ5_7 (v261, gb263) _ ⟨hHeld, (rx HO262.out), (bx BK254.out), (bx BK263.out), GW263.out, GE263.out, NB254_263.out, NB263_254.out, lb⟩)
       ·
        skip
        rintro v261 w12 ⟨hS_, h0_, h1_, h2_⟩
        have n0_ : Aside0 (Kd.R (Kd.int .i64) 3 w12 w.heap.size (fun _ => True) v261 y260) := ⟨h0_⟩
        have n1_ : Aside0 (w12.heap[gb254]? = some (.cells #[.int .i64 a0_0, .slice A0_1 l0_1.length c0_1] 24 (0, 0))) := ⟨h1_⟩
        have n2_ : Aside0 (Below w.heap.size w w12) := ⟨h2_⟩
        clear BK254
        clear HB
        clear h0_ h1_ h2_
        have HO262 := n0_
        have BK254 := n1_
        have HB := n2_
        clear n0_ n1_ n2_
        have hHeld : w12.cell? ⟨gb254, 0, none⟩ = some (.int .i64 a0_0) ∧ w12.cell? ⟨gb254, 1, none⟩ = some (.slice A0_1 l0_1.length c0_1) := hS_
        refine norm_ (a' := ?_) ?_ ?_
        rotate_left
        ·
         simp only [putAll, Act.put, List.setIfInBounds_toArray, List.set_cons_zero, List.set_cons_succ]
         rfl
        refine two_ (i := 2) (j := 7) (Ni := some 20) (Nj := some 7) #[true, true, true, true, true, true, false, false, false] #[true, true, false, true, true, true, false, true, false] rfl rfl rfl rfl (two_of HT_.out (by kernel_rfl)) (by decide) (by decide) (fun K hK => ?_) (fun K hK => ?_)
        ·
         skip
         refine Kd.R_make_step (Kd.int .i64) _ 3 (by rfl) (N := 20) rfl 26 _ _ rfl a0_0 rfl rfl Try.underlying26 (.int .i64 0) 8 info3 rfl (by decide) (by omega) 0 (ok := fun _ => True) (okp := fun _ => True) rfl (fun _ hk => hk) trivial (oda) (Nat.le_trans (Nat.mul_le_mul_right _ (oda : a0_0.toNat ≤ 35184372088832)) (by omega)) (Below.refl _ _) (Nat.le_refl _) ?_
         intro v258 w13 ho14 hb hg_ hnew_
         clear hg_ hnew_
         (first | rw [← Ny257.out] at ho14 | (simp only [Int.reduceToNat] at ho14; rw [← Ny257.out] at ho14))
         have n0_ := ak (Kd.R_elder' (rx HO262.out) (Kd.R_base ho14) hb)
         have n1_ := ak (Kd.R_lower (Kd.R_new' ho14 (Kd.R_lt (rx HO262.out))) (below_size lb))
         have n2_ := ak (blk_below (bx BK254.out) hb)
         have n3_ := ak (below_step lb hb)
         clear HO262
         clear BK254
         clear HB
         have HO262 := n0_
         have HO259 := n1_
         have BK254 := n2_
         have HB := n3_
         clear n0_ n1_ n2_ n3_
         clear hb ho14
         obtain ⟨Ao15, co15, eo15⟩ := Kd.R_slice HO262.out
         (first | subst eo15 | (injection eo15 with f1_ f2_ f3_; have f4_ := f1_.symm; have f5_ := f3_.symm; clear f1_ f2_ f3_; subst f4_; subst f5_))
         obtain ⟨Ao16, co16, eo16⟩ := Kd.R_slice HO259.out
         (first | subst eo16 | (injection eo16 with f1_ f2_ f3_; have f4_ := f1_.symm; have f5_ := f3_.symm; clear f1_ f2_ f3_; subst f4_; subst f5_))
         refine hK.out _ _ ⟨(blk_cell BK254.out 0).trans rfl, (blk_cell BK254.out 1).trans rfl⟩ (fun hHeld => ?_)
         clear hK K
         refine norm_ (a' := ?_) ?_ ?_
         rotate_left
         ·
          show Act.put _ (some 20) _ = _
          simp only [Act.put, List.setIfInBounds_toArray, List.set_cons_zero, List.set_cons_succ, i64_w, i32_w]
          rfl
         refine pure_ (i := 6) (N := some 24) (v := ?_) (a' := ?_) #[true, true, true, true, true, true, true, false, false] rfl rfl (any_of HT_.out (by kernel_rfl)) (fun _ _ _ h => h) (Or.inl ⟨by rfl, ?_⟩) ?_ ?_; rotate_left; intro w'; go_simp; with_reducible rfl; rotate_left; simp only [Act.put, List.setIfInBounds_toArray, List.set_cons_zero, List.set_cons_succ, i64_w, i32_w]; rfl
         exact norm_ (by first | (simp only [putAll, Act.put, List.setIfInBounds_toArray, List.set_cons_zero, List.set_cons_succ]; done) | (simp only [putAll, Act.put, List.setIfInBounds_toArray, List.set_cons_zero, List.set_cons_succ]; rfl)) (hJ2_5 (.slice Ao16 y257.length co16, .slice Ao15 y260.length co15) _ ⟨hHeld, (by exact rx (Kd.R_mono HO259.out (fun _ hk => hk.2))), (by exact rx (Kd.R_mono HO262.out (fun _ hk => hk.2))), (bx BK254.out), lb⟩)
        ·
         skip
         refine box_step ?hg (N := 7) ?hd (cs := #[.slice none 0 0, .slice none 0 0, .int .i64 0]) (t := 66) ?hr ?_; (case hd => rfl); (case hg => rfl); (case hr => first | (go_simp; done) | (go_simp; rfl))
         intro gb263 hg w13 hbox hb
         have n0_ := ak (Kd.R_below (rx HO262.out) hb)
         have n1_ := ak (blk_below (bx BK254.out) hb)
         have n2_ := ak (below_step lb hb)
         have n3_ := ak (hbox)
         have n4_ := ak ((by rw [hg]; exact (below_size lb) : w.heap.size ≤ gb263))
         have n5_ := ak ((by rw [hg]; exact (below_size lb) : w.heap.size ≤ gb263))
         have n6_ := ak ((by rw [hg]; exact Nat.ne_of_lt (blk_lt (g := gb254) (o := .cells #[.int .i64 a0_0, .slice A0_1 l0_1.length c0_1] 24 (0, 0)) (bx BK254.out)) : gb254 ≠ gb263))
         have n7_ := ak ((by rw [hg]; exact Nat.ne_of_gt (blk_lt (g := gb254) (o := .cells #[.int .i64 a0_0, .slice A0_1 l0_1.length c0_1] 24 (0, 0)) (bx BK254.out)) : gb263 ≠ gb254))
         clear HO262
         clear BK254
         clear HB
         have HO262 := n0_
         have BK254 := n1_
         have HB := n2_
         have BK263 := n3_
         have GW263 := n4_
         have GE263 := n5_
         have NB254_263 := n6_
         have NB263_254 := n7_
         clear n0_ n1_ n2_ n3_ n4_ n5_ n6_ n7_
         clear hb hbox hg
         refine hK.out _ _ ⟨(blk_cell BK254.out 0).trans rfl, (blk_cell BK254.out 1).trans rfl⟩ (fun hHeld => ?_)
         clear hK K
         refine norm_ (a' := ?_) ?_ ?_
         rotate_left
         ·
          show Act.put _ (some 7) _ = _
          simp only [Act.put, List.setIfInBounds_toArray, List.set_cons_zero, List.set_cons_succ, i64_w, i32_w]
          rfl
         exact norm_ (by first | (simp only [putAll, Act.put, List.setIfInBounds_toArray, List.set_cons_zero, List.set_cons_succ]; done) | (simp only [putAll, Act.put, List.setIfInBounds_toArray, List.set_cons_zero, List.set_cons_succ]; rfl)) (hJ5_7 (v261, gb263) _ ⟨hHeld, (rx HO262.out), (bx BK254.out), (bx BK263.out), GW263.out, GE263.out, NB254_263.out, NB263_254.out, lb⟩)
      ·
       skip
       rintro v258 w12 ⟨hS_, h0_, h1_, h2_⟩
       have n0_ : Aside0 (Kd.R (Kd.int .i64) 3 w12 w.heap.size (fun _ => True) v258 y257) := ⟨h0_⟩
       have n1_ : Aside0 (w12.heap[gb254]? = some (.cells #[.int .i64 a0_0, .slice A0_1 l0_1.length c0_1] 24 (0, 0))) := ⟨h1_⟩
       have n2_ : Aside0 (Below w.heap.size w w12) := ⟨h2_⟩
       clear BK254
       clear HB
       clear h0_ h1_ h2_
       have HO259 := n0_
       have BK254 := n1_
       have HB := n2_
       clear n0_ n1_ n2_
       have hHeld : w12.cell? ⟨gb254, 0, none⟩ = some (.int .i64 a0_0) ∧ w12.cell? ⟨gb254, 1, none⟩ = some (.slice A0_1 l0_1.length c0_1) := hS_
       refine norm_ (a' := ?_) ?_ ?_
       rotate_left
       ·
        simp only [putAll, Act.put, List.setIfInBounds_toArray, List.set_cons_zero, List.set_cons_succ]
        rfl
       refine two_ (i := 5) (j := 7) (Ni := some 23) (Nj := some 7) #[true, true, true, true, true, true, false, false, false] #[true, true, true, true, true, false, false, true, false] rfl rfl rfl rfl (two_of HT_.out (by kernel_rfl)) (by decide) (by decide) (fun K hK => ?_) (fun K hK => ?_)
       ·
        skip
        refine Kd.R_make_step (Kd.int .i64) _ 3 (by rfl) (N := 23) rfl 26 _ _ rfl a0_0 rfl rfl Try.underlying26 (.int .i64 0) 8 info3 rfl (by decide) (by omega) 0 (ok := fun _ => True) (okp := fun _ => True) rfl (fun _ hk => hk) trivial (oda) (Nat.le_trans (Nat.mul_le_mul_right _ (oda : a0_0.toNat ≤ 35184372088832)) (by omega)) (Below.refl _ _) (Nat.le_refl _) ?_
        intro v261 w13 ho14 hb hg_ hnew_
        clear hg_ hnew_
        (first | rw [← Ny260.out] at ho14 | (simp only [Int.reduceToNat] at ho14; rw [← Ny260.out] at ho14))
        have n0_ := ak (Kd.R_elder' (rx HO259.out) (Kd.R_base ho14) hb)
        have n1_ := ak (Kd.R_lower (Kd.R_new' ho14 (Kd.R_lt (rx HO259.out))) (below_size lb))
        have n2_ := ak (blk_below (bx BK254.out) hb)
        have n3_ := ak (below_step lb hb)
        clear HO259
        clear BK254
        clear HB
        have HO259 := n0_
        have HO262 := n1_
        have BK254 := n2_
        have HB := n3_
        clear n0_ n1_ n2_ n3_
        clear hb ho14
        obtain ⟨Ao15, co15, eo15⟩ := Kd.R_slice HO262.out
        (first | subst eo15 | (injection eo15 with f1_ f2_ f3_; have f4_ := f1_.symm; have f5_ := f3_.symm; clear f1_ f2_ f3_; subst f4_; subst f5_))
        obtain ⟨Ao16, co16, eo16⟩ := Kd.R_slice HO259.out
        (first | subst eo16 | (injection eo16 with f1_ f2_ f3_; have f4_ := f1_.symm; have f5_ := f3_.symm; clear f1_ f2_ f3_; subst f4_; subst f5_))
        refine hK.out _ _ ⟨(blk_cell BK254.out 0).trans rfl, (blk_cell BK254.out 1).trans rfl⟩ (fun hHeld => ?_)
        clear hK K
        refine norm_ (a' := ?_) ?_ ?_
        rotate_left
        ·
         show Act.put _ (some 23) _ = _
         simp only [Act.put, List.setIfInBounds_toArray, List.set_cons_zero, List.set_cons_succ, i64_w, i32_w]
         rfl
        refine pure_ (i := 6) (N := some 24) (v := ?_) (a' := ?_) #[true, true, true, true, true, true, true, false, false] rfl rfl (any_of HT_.out (by kernel_rfl)) (fun _ _ _ h => h) (Or.inl ⟨by rfl, ?_⟩) ?_ ?_; rotate_left; intro w'; go_simp; with_reducible rfl; rotate_left; simp only [Act.put, List.setIfInBounds_toArray, List.set_cons_zero, List.set_cons_succ, i64_w, i32_w]; rfl
        exact norm_ (by first | (simp only [putAll, Act.put, List.setIfInBounds_toArray, List.set_cons_zero, List.set_cons_succ]; done) | (simp only [putAll, Act.put, List.setIfInBounds_toArray, List.set_cons_zero, List.set_cons_succ]; rfl)) (hJ2_5 (.slice Ao16 y257.length co16, .slice Ao15 y260.length co15) _ ⟨hHeld, (by exact rx (Kd.R_mono HO259.out (fun _ hk => hk.2))), (by exact rx (Kd.R_mono HO262.out (fun _ hk => hk.2))), (bx BK254.out), lb⟩)
       ·
        skip
        refine box_step ?hg (N := 7) ?hd (cs := #[.slice none 0 0, .slice none 0 0, .int .i64 0]) (t := 66) ?hr ?_; (case hd => rfl); (case hg => rfl); (case hr => first | (go_simp; done) | (go_simp; rfl))
        intro gb263 hg w13 hbox hb
        have n0_ := ak (Kd.R_below (rx HO259.out) hb)
        have n1_ := ak (blk_below (bx BK254.out) hb)
        have n2_ := ak (below_step lb hb)
        have n3_ := ak (hbox)
        have n4_ := ak ((by rw [hg]; exact (below_size lb) : w.heap.size ≤ gb263))
        have n5_ := ak ((by rw [hg]; exact (below_size lb) : w.heap.size ≤ gb263))
        have n6_ := ak ((by rw [hg]; exact Nat.ne_of_lt (blk_lt (g := gb254) (o := .cells #[.int .i64 a0_0, .slice A0_1 l0_1.length c0_1] 24 (0, 0)) (bx BK254.out)) : gb254 ≠ gb263))
        have n7_ := ak ((by rw [hg]; exact Nat.ne_of_gt (blk_lt (g := gb254) (o := .cells #[.int .i64 a0_0, .slice A0_1 l0_1.length c0_1] 24 (0, 0)) (bx BK254.out)) : gb263 ≠ gb254))
        clear HO259
        clear BK254
        clear HB
        have HO259 := n0_
        have BK254 := n1_
        have HB := n2_
        have BK263 := n3_
        have GW263 := n4_
        have GE263 := n5_
        have NB254_263 := n6_
        have NB263_254 := n7_
        clear n0_ n1_ n2_ n3_ n4_ n5_ n6_ n7_
        clear hb hbox hg
        refine hK.out _ _ ⟨(blk_cell BK254.out 0).trans rfl, (blk_cell BK254.out 1).trans rfl⟩ (fun hHeld => ?_)
        clear hK K
        refine norm_ (a' := ?_) ?_ ?_
        rotate_left
        ·
         show Act.put _ (some 7) _ = _
         simp only [Act.put, List.setIfInBounds_toArray, List.set_cons_zero, List.set_cons_succ, i64_w, i32_w]
         rfl
        exact norm_ (by first | (simp only [putAll, Act.put, List.setIfInBounds_toArray, List.set_cons_zero, List.set_cons_succ]; done) | (simp only [putAll, Act.put, List.setIfInBounds_toArray, List.set_cons_zero, List.set_cons_succ]; rfl)) (hJ2_7 (v258, gb263) _ ⟨hHeld, (rx HO259.out), (bx BK254.out), (bx BK263.out), GW263.out, GE263.out, NB254_263.out, NB263_254.out, lb⟩)
     ·
      skip
      rintro ⟨v261, gb263⟩ w13 ⟨hS_, h0_, h1_, h2_, h3_, h4_, h5_, h6_, h7_⟩
      have n0_ : Aside0 (Kd.R (Kd.int .i64) 3 w13 w.heap.size (fun _ => True) v261 y260) := ⟨h0_⟩
      have n1_ : Aside0 (w13.heap[gb254]? = some (.cells #[.int .i64 a0_0, .slice A0_1 l0_1.length c0_1] 24 (0, 0))) := ⟨h1_⟩
      have n2_ : Aside0 (w13.heap[gb263]? = some (.cells #[.slice none 0 0, .slice none 0 0, .int .i64 0] 66 (0, 0))) := ⟨h2_⟩
      have n3_ : Aside0 (w.heap.size ≤ gb263) := ⟨h3_⟩
      have n4_ : Aside0 (w.heap.size ≤ gb263) := ⟨h4_⟩
      have n5_ : Aside0 (gb254 ≠ gb263) := ⟨h5_⟩
      have n6_ : Aside0 (gb263 ≠ gb254) := ⟨h6_⟩
      have n7_ : Aside0 (Below w.heap.size w w13) := ⟨h7_⟩
      clear BK254
      clear HB
      clear h0_ h1_ h2_ h3_ h4_ h5_ h6_ h7_
      have HO262 := n0_
      have BK254 := n1_
      have BK263 := n2_
      have GW263 := n3_
      have GE263 := n4_
      have NB254_263 := n5_
      have NB263_254 := n6_
      have HB := n7_
      clear n0_ n1_ n2_ n3_ n4_ n5_ n6_ n7_
      have hHeld : w13.cell? ⟨gb254, 0, none⟩ = some (.int .i64 a0_0) ∧ w13.cell? ⟨gb254, 1, none⟩ = some (.slice A0_1 l0_1.length c0_1) := hS_
      refine norm_ (a' := ?_) ?_ ?_
      rotate_left
      ·
       simp only [putAll, Act.put, List.setIfInBounds_toArray, List.set_cons_zero, List.set_cons_succ]
       rfl
      refine one_ (i := 2) (N := some 20) #[true, true, true, true, true, true, false, true, false] rfl rfl (one_of HT_.out (by kernel_rfl)) (by decide) (fun K hK => ?_)
      refine Kd.R_make_step (Kd.int .i64) _ 3 (by rfl) (N := 20) rfl 26 _ _ rfl a0_0 rfl rfl Try.underlying26 (.int .i64 0) 8 info3 rfl (by decide) (by omega) 0 (ok := fun _ => True) (okp := fun _ => True) rfl (fun _ hk => hk) trivial (oda) (Nat.le_trans (Nat.mul_le_mul_right _ (oda : a0_0.toNat ≤ 35184372088832)) (by omega)) (Below.refl _ _) (Nat.le_refl _) ?_
      intro v258 w14 ho15 hb hg_ hnew_
      clear hg_ hnew_
      (first | rw [← Ny257.out] at ho15 | (simp only [Int.reduceToNat] at ho15; rw [← Ny257.out] at ho15))
      have n0_ := ak (Kd.R_elder' (rx HO262.out) (Kd.R_base ho15) hb)
      have n1_ := ak (Kd.R_lower (Kd.R_new' ho15 (Kd.R_lt (rx HO262.out))) (below_size lb))
      have n2_ := ak (blk_below (bx BK254.out) hb)
      have n3_ := ak (blk_below (bx BK263.out) hb)
      have n4_ := ak (below_step lb hb)
      clear HO262
      clear BK254
      clear BK263
      clear HB
      have HO262 := n0_
      have HO259 := n1_
      have BK254 := n2_
      have BK263 := n3_
      have HB := n4_
      clear n0_ n1_ n2_ n3_ n4_
      clear hb ho15
      obtain ⟨Ao16, co16, eo16⟩ := Kd.R_slice HO262.out
      (first | subst eo16 | (injection eo16 with f1_ f2_ f3_; have f4_ := f1_.symm; have f5_ := f3_.symm; clear f1_ f2_ f3_; subst f4_; subst f5_))
      obtain ⟨Ao17, co17, eo17⟩ := Kd.R_slice HO259.out
      (first | subst eo17 | (injection eo17 with f1_ f2_ f3_; have f4_ := f1_.symm; have f5_ := f3_.symm; clear f1_ f2_ f3_; subst f4_; subst f5_))
      refine hK.out _ _ ⟨(blk_cell BK254.out 0).trans rfl, (blk_cell BK254.out 1).trans rfl⟩ (fun hHeld => ?_)
      clear hK K
      refine norm_ (a' := ?_) ?_ ?_
      rotate_left
      ·
       show Act.put _ (some 20) _ = _
       simp only [Act.put, List.setIfInBounds_toArray, List.set_cons_zero, List.set_cons_succ, i64_w, i32_w]
       rfl
      refine pure_ (i := 6) (N := some 24) (v := ?_) (a' := ?_) #[true, true, true, true, true, true, true, true, false] rfl rfl (any_of HT_.out (by kernel_rfl)) (fun _ _ _ h => h) (Or.inl ⟨by rfl, ?_⟩) ?_ ?_; rotate_left; intro w'; go_simp; with_reducible rfl; rotate_left; simp only [Act.put, List.setIfInBounds_toArray, List.set_cons_zero, List.set_cons_succ, i64_w, i32_w]; rfl
      exact norm_ (by first | (simp only [putAll, Act.put, List.setIfInBounds_toArray, List.set_cons_zero, List.set_cons_succ]; done) | (simp only [putAll, Act.put, List.setIfInBounds_toArray, List.set_cons_zero, List.set_cons_succ]; rfl)) (hJ2_5_7 (.slice Ao17 y257.length co17, .slice Ao16 y260.length co16, gb263) _ ⟨hHeld, (by exact rx (Kd.R_mono HO259.out (fun _ hk => hk.2))), (by exact rx (Kd.R_mono HO262.out (fun _ hk => hk.2))), (bx BK254.out), (bx BK263.out), GW263.out, GE263.out, NB254_263.out, NB263_254.out, lb⟩)
    ·
     skip
     rintro ⟨v258, gb263⟩ w13 ⟨hS_, h0_, h1_, h2_, h3_, h4_, h5_, h6_, h7_⟩
     have n0_ : Aside0 (Kd.R (Kd.int .i64) 3 w13 w.heap.size (fun _ => True) v258 y257) := ⟨h0_⟩
     have n1_ : Aside0 (w13.heap[gb254]? = some (.cells #[.int .i64 a0_0, .slice A0_1 l0_1.length c0_1] 24 (0, 0))) := ⟨h1_⟩
     have n2_ : Aside0 (w13.heap[gb263]? = some (.cells #[.slice none 0 0, .slice none 0 0, .int .i64 0] 66 (0, 0))) := ⟨h2_⟩
     have n3_ : Aside0 (w.heap.size ≤ gb263) := ⟨h3_⟩
     have n4_ : Aside0 (w.heap.size ≤ gb263) := ⟨h4_⟩
     have n5_ : Aside0 (gb254 ≠ gb263) := ⟨h5_⟩
     have n6_ : Aside0 (gb263 ≠ gb254) := ⟨h6_⟩
     have n7_ : Aside0 (Below w.heap.size w w13) := ⟨h7_⟩
     clear BK254
     clear HB
     clear h0_ h1_ h2_ h3_ h4_ h5_ h6_ h7_
     have HO259 := n0_
     have BK254 := n1_
     have BK263 := n2_
     have GW263 := n3_
     have GE263 := n4_
     have NB254_263 := n5_
     have NB263_254 := n6_
     have HB := n7_
     clear n0_ n1_ n2_ n3_ n4_ n5_ n6_ n7_
     have hHeld : w13.cell? ⟨gb254, 0, none⟩ = some (.int .i64 a0_0) ∧ w13.cell? ⟨gb254, 1, none⟩ = some (.slice A0_1 l0_1.length c0_1) := hS_
     refine norm_ (a' := ?_) ?_ ?_
     rotate_left
     ·
      simp only [putAll, Act.put, List.setIfInBounds_toArray, List.set_cons_zero, List.set_cons_succ]
      rfl
     refine one_ (i := 5) (N := some 23) #[true, true, true, true, true, true, false, true, false] rfl rfl (one_of HT_.out (by kernel_rfl)) (by decide) (fun K hK => ?_)
     refine Kd.R_make_step (Kd.int .i64) _ 3 (by rfl) (N := 23) rfl 26 _ _ rfl a0_0 rfl rfl Try.underlying26 (.int .i64 0) 8 info3 rfl (by decide) (by omega) 0 (ok := fun _ => True) (okp := fun _ => True) rfl (fun _ hk => hk) trivial (oda) (Nat.le_trans (Nat.mul_le_mul_right _ (oda : a0_0.toNat ≤ 35184372088832)) (by omega)) (Below.refl _ _) (Nat.le_refl _) ?_
     intro v261 w14 ho15 hb hg_ hnew_
     clear hg_ hnew_
     (first | rw [← Ny260.out] at ho15 | (simp only [Int.reduceToNat] at ho15; rw [← Ny260.out] at ho15))
     have n0_ := ak (Kd.R_elder' (rx HO259.out) (Kd.R_base ho15) hb)
     have n1_ := ak (Kd.R_lower (Kd.R_new' ho15 (Kd.R_lt (rx HO259.out))) (below_size lb))
     have n2_ := ak (blk_below (bx BK254.out) hb)
     have n3_ := ak (blk_below (bx BK263.out) hb)
     have n4_ := ak (below_step lb hb)
     clear HO259
     clear BK254
     clear BK263
     clear HB
     have HO259 := n0_
     have HO262 := n1_
     have BK254 := n2_
     have BK263 := n3_
     have HB := n4_
     clear n0_ n1_ n2_ n3_ n4_
     clear hb ho15
     obtain ⟨Ao16, co16, eo16⟩ := Kd.R_slice HO262.out
     (first | subst eo16 | (injection eo16 with f1_ f2_ f3_; have f4_ := f1_.symm; have f5_ := f3_.symm; clear f1_ f2_ f3_; subst f4_; subst f5_))
     obtain ⟨Ao17, co17, eo17⟩ := Kd.R_slice HO259.out
     (first | subst eo17 | (injection eo17 with f1_ f2_ f3_; have f4_ := f1_.symm; have f5_ := f3_.symm; clear f1_ f2_ f3_; subst f4_; subst f5_))
     refine hK.out _ _ ⟨(blk_cell BK254.out 0).trans rfl, (blk_cell BK254.out 1).trans rfl⟩ (fun hHeld => ?_)
     clear hK K
     refine norm_ (a' := ?_) ?_ ?_
     rotate_left
     ·
      show Act.put _ (some 23) _ = _
      simp only [Act.put, List.setIfInBounds_toArray, List.set_cons_zero, List.set_cons_succ, i64_w, i32_w]
      rfl
     refine pure_ (i := 6) (N := some 24) (v := ?_) (a' := ?_) #[true, true, true, true, true, true, true, true, false] rfl rfl (any_of HT_.out (by kernel_rfl)) (fun _ _ _ h => h) (Or.inl ⟨by rfl, ?_⟩) ?_ ?_; rotate_left; intro w'; go_simp; with_reducible rfl; rotate_left; simp only [Act.put, List.setIfInBounds_toArray, List.set_cons_zero, List.set_cons_succ, i64_w, i32_w]; rfl
     exact norm_ (by first | (simp only [putAll, Act.put, List.setIfInBounds_toArray, List.set_cons_zero, List.set_cons_succ]; done) | (simp only [putAll, Act.put, List.setIfInBounds_toArray, List.set_cons_zero, List.set_cons_succ]; rfl)) (hJ2_5_7 (.slice Ao17 y257.length co17, .slice Ao16 y260.length co16, gb263) _ ⟨hHeld, (by exact rx (Kd.R_mono HO259.out (fun _ hk => hk.2))), (by exact rx (Kd.R_mono HO262.out (fun _ hk => hk.2))), (bx BK254.out), (bx BK263.out), GW263.out, GE263.out, NB254_263.out, NB263_254.out, lb⟩)
   ·
    skip
    rintro ⟨v258, v261⟩ w16 ⟨hS_, h0_, h1_, h2_, h3_⟩
    have n0_ : Aside0 (Kd.R (Kd.int .i64) 3 w16 w.heap.size (fun k_ => some k_ ≠ (v261 : Value).ownBlock) v258 y257) := ⟨h0_⟩
    have n1_ : Aside0 (Kd.R (Kd.int .i64) 3 w16 w.heap.size (fun k_ => some k_ ≠ (v258 : Value).ownBlock) v261 y260) := ⟨h1_⟩
    have n2_ : Aside0 (w16.heap[gb254]? = some (.cells #[.int .i64 a0_0, .slice A0_1 l0_1.length c0_1] 24 (0, 0))) := ⟨h2_⟩
    have n3_ : Aside0 (Below w.heap.size w w16) := ⟨h3_⟩
    clear BK254
    clear HB
    clear h0_ h1_ h2_ h3_
    have HO259 := n0_
    have HO262 := n1_
    have BK254 := n2_
    have HB := n3_
    clear n0_ n1_ n2_ n3_
    have hHeld : w16.cell? ⟨gb254, 0, none⟩ = some (.int .i64 a0_0) ∧ w16.cell? ⟨gb254, 1, none⟩ = some (.slice A0_1 l0_1.length c0_1) := hS_
    obtain ⟨Ao17, co17, eo17⟩ := Kd.R_slice HO262.out
    (first | subst eo17 | (injection eo17 with f1_ f2_ f3_; have f4_ := f1_.symm; have f5_ := f3_.symm; clear f1_ f2_ f3_; subst f4_; subst f5_))
    obtain ⟨Ao18, co18, eo18⟩ := Kd.R_slice HO259.out
    (first | subst eo18 | (injection eo18 with f1_ f2_ f3_; have f4_ := f1_.symm; have f5_ := f3_.symm; clear f1_ f2_ f3_; subst f4_; subst f5_))
    refine norm_ (a' := ?_) ?_ ?_
    rotate_left
    ·
     simp only [putAll, Act.put, List.setIfInBounds_toArray, List.set_cons_zero, List.set_cons_succ]
     rfl
    refine one_ (i := 7) (N := some 7) #[true, true, true, true, true, true, true, true, false] rfl rfl (one_of HT_.out (by kernel_rfl)) (by decide) (fun K hK => ?_)
    refine box_step ?hg (N := 7) ?hd (cs := #[.slice none 0 0, .slice none 0 0, .int .i64 0]) (t := 66) ?hr ?_; (case hd => rfl); (case hg => rfl); (case hr => first | (go_simp; done) | (go_simp; rfl))
    intro gb263 hg w19 hbox hb
    have n0_ := ak (Kd.R_below (rx HO259.out) hb)
    have n1_ := ak (Kd.R_below (rx HO262.out) hb)
    have n2_ := ak (blk_below (bx BK254.out) hb)
    have n3_ := ak (below_step lb hb)
    have n4_ := ak (hbox)
    have n5_ := ak ((by rw [hg]; exact (below_size lb) : w.heap.size ≤ gb263))
    have n6_ := ak ((by rw [hg]; exact (below_size lb) : w.heap.size ≤ gb263))
    have n7_ := ak ((by rw [hg]; exact Nat.ne_of_lt (blk_lt (g := gb254) (o := .cells #[.int .i64 a0_0, .slice A0_1 l0_1.length c0_1] 24 (0, 0)) (bx BK254.out)) : gb254 ≠ gb263))
    have n8_ := ak ((by rw [hg]; exact Nat.ne_of_gt (blk_lt (g := gb254) (o := .cells #[.int .i64 a0_0, .slice A0_1 l0_1.length c0_1] 24 (0, 0)) (bx BK254.out)) : gb263 ≠ gb254))
    clear HO259
    clear HO262
    clear BK254
    clear HB
    have HO259 := n0_
    have HO262 := n1_
    have BK254 := n2_
    have HB := n3_
    have BK263 := n4_
    have GW263 := n5_
    have GE263 := n6_
    have NB254_263 := n7_
    have NB263_254 := n8_
    clear n0_ n1_ n2_ n3_ n4_ n5_ n6_ n7_ n8_
    clear hb hbox hg
    refine hK.out _ _ ⟨(blk_cell BK254.out 0).trans rfl, (blk_cell BK254.out 1).trans rfl⟩ (fun hHeld => ?_)
    clear hK K
    refine norm_ (a' := ?_) ?_ ?_
    rotate_left
    ·
     show Act.put _ (some 7) _ = _
     simp only [Act.put, List.setIfInBounds_toArray, List.set_cons_zero, List.set_cons_succ, i64_w, i32_w]
     rfl
    exact norm_ (by first | (simp only [putAll, Act.put, List.setIfInBounds_toArray, List.set_cons_zero, List.set_cons_succ]; done) | (simp only [putAll, Act.put, List.setIfInBounds_toArray, List.set_cons_zero, List.set_cons_succ]; rfl)) (hJ2_5_7 (.slice Ao18 y257.length co18, .slice Ao17 y260.length co17, gb263) _ ⟨hHeld, (rx HO259.out), (rx HO262.out), (bx BK254.out), (bx BK263.out), GW263.out, GE263.out, NB254_263.out, NB263_254.out, lb⟩)
  rintro ⟨v258, v261, gb263⟩ w17 ⟨hS_, h0_, h1_, h2_, h3_, h4_, h5_, h6_, h7_, h8_⟩
  have n0_ : Aside0 (Kd.R (Kd.int .i64) 3 w17 w.heap.size (fun k_ => some k_ ≠ (v261 : Value).ownBlock) v258 y257) := ⟨h0_⟩
  have n1_ : Aside0 (Kd.R (Kd.int .i64) 3 w17 w.heap.size (fun k_ => some k_ ≠ (v258 : Value).ownBlock) v261 y260) := ⟨h1_⟩
  have n2_ : Aside0 (w17.heap[gb254]? = some (.cells #[.int .i64 a0_0, .slice A0_1 l0_1.length c0_1] 24 (0, 0))) := ⟨h2_⟩
  have n3_ : Aside0 (w17.heap[gb263]? = some (.cells #[.slice none 0 0, .slice none 0 0, .int .i64 0] 66 (0, 0))) := ⟨h3_⟩
  have n4_ : Aside0 (w.heap.size ≤ gb263) := ⟨h4_⟩
  have n5_ : Aside0 (w.heap.size ≤ gb263) := ⟨h5_⟩
  have n6_ : Aside0 (gb254 ≠ gb263) := ⟨h6_⟩
  have n7_ : Aside0 (gb263 ≠ gb254) := ⟨h7_⟩
  have n8_ : Aside0 (Below w.heap.size w w17) := ⟨h8_⟩
  clear BK254
  clear HB
  clear h0_ h1_ h2_ h3_ h4_ h5_ h6_ h7_ h8_
  have HO259 := n0_
  have HO262 := n1_
  have BK254 := n2_
  have BK263 := n3_
  have GW263 := n4_
  have GE263 := n5_
  have NB254_263 := n6_
  have NB263_254 := n7_
  have HB := n8_
  clear n0_ n1_ n2_ n3_ n4_ n5_ n6_ n7_ n8_
  have hHeld : w17.cell? ⟨gb254, 0, none⟩ = some (.int .i64 a0_0) ∧ w17.cell? ⟨gb254, 1, none⟩ = some (.slice A0_1 l0_1.length c0_1) := hS_
  obtain ⟨Ao18, co18, eo18⟩ := Kd.R_slice HO262.out
  (first | subst eo18 | (injection eo18 with f1_ f2_ f3_; have f4_ := f1_.symm; have f5_ := f3_.symm; clear f1_ f2_ f3_; subst f4_; subst f5_))
  obtain ⟨Ao19, co19, eo19⟩ := Kd.R_slice HO259.out
  (first | subst eo19 | (injection eo19 with f1_ f2_ f3_; have f4_ := f1_.symm; have f5_ := f3_.symm; clear f1_ f2_ f3_; subst f4_; subst f5_))
  refine norm_ (a' := ?_) ?_ ?_
  rotate_left
  ·
   simp only [putAll, Act.put, List.setIfInBounds_toArray, List.set_cons_zero, List.set_cons_succ]
   rfl
  refine one_ (i := 8) (N := none) #[true, true, true, true, true, true, true, true, true] rfl rfl (one_of HT_.out (by kernel_rfl)) (by decide) (fun K hK => ?_)
  have hs20 : w17.cell? ⟨gb263, 0, none⟩ = some (.slice none 0 0) := (blk_cell BK263.out 0).trans rfl
  have hfs20 := blk_frozen BK263.out 0
  have hns20_0 := NB254_263.out
  have hms20_0 := NB263_254.out
  have hs21 : w17.cell? ⟨gb263, 1, none⟩ = some (.slice none 0 0) := (blk_cell BK263.out 1).trans rfl
  have hfs21 := blk_frozen BK263.out 1
  have hns21_0 := NB254_263.out
  have hms21_0 := NB263_254.out
  have hs22 : w17.cell? ⟨gb263, 2, none⟩ = some (.int .i64 0) := (blk_cell BK263.out 2).trans rfl
  have hfs22 := blk_frozen BK263.out 2
  have hns22_0 := NB254_263.out
  have hms22_0 := NB263_254.out
  refine skip_ (w1 := ?_) (by rfl) rfl ?_ ?_
  rotate_left
  ·
   go_simp
   rfl
  refine hK.out _ _ ⟨((cell_far (p := ⟨gb263, _, none⟩) NB254_263.out _).trans (((cell_far (p := ⟨gb263, _, none⟩) NB254_263.out _).trans (((cell_far (p := ⟨gb263, _, none⟩) NB254_263.out _).trans (hHeld.1)))))), ((cell_far (p := ⟨gb263, _, none⟩) NB254_263.out _).trans (((cell_far (p := ⟨gb263, _, none⟩) NB254_263.out _).trans (((cell_far (p := ⟨gb263, _, none⟩) NB254_263.out _).trans (hHeld.2))))))⟩ (fun hHeld => ?_)
  clear hK K
  refine done_ (done_of HT_.out (by kernel_rfl)) ?_
  try go_wp2
  go_loopg [8] k (fun kq v8 w' => ∃ (x8_1 : Int) (x264000_1 : List Int) (x264001_1 : List Int) (u264000 : Value) (u264001 : Value), v8 = .int .i64 x8_1 ∧ Aside0 (compassref04_Visit.l0 kq x8_1 a0_0 l0_1 x264000_1 x264001_1 0 = some (r1, r2, r3)) ∧ Aside0 (kq ≤ k) ∧ Aside0 (Kd.R (Kd.int .i64) 3 w' w.heap.size (fun k_ => some k_ ≠ (u264001 : Value).ownBlock) u264000 x264000_1) ∧ Aside0 (Kd.R (Kd.int .i64) 3 w' w.heap.size (fun k_ => some k_ ≠ (u264000 : Value).ownBlock) u264001 x264001_1) ∧ Aside0 (w'.heap[gb254]? = some (.cells #[.int .i64 a0_0, (.slice A0_1 l0_1.length c0_1)] 24 (0, 0))) ∧ Aside0 (w'.heap[gb263]? = some (.cells #[u264000, u264001, .int .i64 0] 66 (0, 0))) ∧ Aside0 (Below w.heap.size w w'))
  case atStart => exact ⟨(0), (y257), (y260), (.slice Ao19 y257.length co19), (.slice Ao18 y260.length co18), (by first | rfl | (simp [*]; done)), H', ⟨Nat.le_refl _⟩, ⟨by exact rx (Kd.R_mono (Kd.R_far (p := ⟨gb263, 2, none⟩) (Kd.R_far (p := ⟨gb263, 1, none⟩) (Kd.R_far (p := ⟨gb263, 0, none⟩) (Kd.R_types HO259.out BK263.out (by decide)) (fun _ hk => hk.2) (.slice Ao19 y257.length co19)) (fun _ hk => hk.2) (.slice Ao18 y260.length co18)) (fun _ hk => hk.2) (.int .i64 0)) (fun _ hk => hk.1))⟩, ⟨by exact rx (Kd.R_mono (Kd.R_far (p := ⟨gb263, 2, none⟩) (Kd.R_far (p := ⟨gb263, 1, none⟩) (Kd.R_far (p := ⟨gb263, 0, none⟩) (Kd.R_types HO262.out BK263.out (by decide)) (fun _ hk => hk.2) (.slice Ao19 y257.length co19)) (fun _ hk => hk.2) (.slice Ao18 y260.length co18)) (fun _ hk => hk.2) (.int .i64 0)) (fun _ hk => hk.1))⟩, ⟨by (with_reducible repeat (first | refine blk_drewN ?_ _ | refine blk_drew ?_ | refine blk_alloc ?_ _)); refine blk_far ?_ NB254_263.out _; (with_reducible repeat (first | refine blk_drewN ?_ _ | refine blk_drew ?_ | refine blk_alloc ?_ _)); refine blk_far ?_ NB254_263.out _; (with_reducible repeat (first | refine blk_drewN ?_ _ | refine blk_drew ?_ | refine blk_alloc ?_ _)); refine blk_far ?_ NB254_263.out _; exact bx BK254.out⟩, ⟨by (with_reducible repeat (first | refine blk_drewN ?_ _ | refine blk_drew ?_ | refine blk_alloc ?_ _)); refine blk_put (cs := #[.slice Ao19 y257.length co19, .slice Ao18 y260.length co18, .int .i64 0]) ?_ 2 _ rfl; (with_reducible repeat (first | refine blk_drewN ?_ _ | refine blk_drew ?_ | refine blk_alloc ?_ _)); refine blk_put (cs := #[.slice Ao19 y257.length co19, .slice none 0 0, .int .i64 0]) ?_ 1 _ rfl; (with_reducible repeat (first | refine blk_drewN ?_ _ | refine blk_drew ?_ | refine blk_alloc ?_ _)); refine blk_put (cs := #[.slice none 0 0, .slice none 0 0, .int .i64 0]) ?_ 0 _ rfl; exact bx BK263.out⟩, ⟨lb⟩⟩
  case round =>
   clear H'
   try clear p2
   obtain ⟨x8_1, x264000_1, x264001_1, u264000, u264001, rfl, HA, HK1, HO_264000, HO_264001, BK254, BK263, HB⟩ := hrel
   cases gk with
   | zero => exact absurd HA.out (by simp [compassref04_Visit.l0])
   | succ k1 =>
    have H := HA.out
    clear HA
    simp only [compassref04_Visit.l0] at H
    by_cases c23 : x8_1 < a0_0
    ·
     rw [if_pos c23] at H
     have c23b0 : decide (x8_1 < a0_0) = true := decide_eq_true c23
     clear c23
     by_cases c24 : 0 ≤ x8_1
     rotate_left
     ·
      rw [if_neg c24] at H
      exact absurd H (by simp)
     rw [if_pos c24] at H
     have c24b0 : decide (0 ≤ x8_1) = true := decide_eq_true c24
     clear c24
     by_cases c25 : x8_1 < (x264000_1.length : Int)
     rotate_left
     ·
      rw [if_neg c25] at H
      exact absurd H (by simp)
     rw [if_pos c25] at H
     have c25b0 : decide (x8_1 < (x264000_1.length : Int)) = true := decide_eq_true c25
     clear c25
     obtain ⟨y264, hy264⟩ : ∃ y_ : List Int, y_ = (x264000_1.set (x8_1 : Int).toNat (-1)) := ⟨_, rfl⟩
     replace H : (if x8_1 < (x264001_1.length : Int) then (compassref04_Visit.l0 k1 (wrap64 (x8_1 + 1)) a0_0 l0_1 y264 (x264001_1.set (x8_1 : Int).toNat (-1)) 0) else (none)) = some (r1, r2, r3) := by first | (rw [hy264]; exact H) | exact H
     have Ny264 := ak hy264
     clear hy264
     by_cases c27 : x8_1 < (x264001_1.length : Int)
     rotate_left
     ·
      rw [if_neg c27] at H
      exact absurd H (by simp)
     rw [if_pos c27] at H
     have c27b0 : decide (x8_1 < (x264001_1.length : Int)) = true := decide_eq_true c27
     clear c27
     obtain ⟨y265, hy265⟩ : ∃ y_ : List Int, y_ = (x264001_1.set (x8_1 : Int).toNat (-1)) := ⟨_, rfl⟩
     replace H : (compassref04_Visit.l0 k1 (wrap64 (x8_1 + 1)) a0_0 l0_1 y264 y265 0) = some (r1, r2, r3) := by first | (rw [hy265]; exact H) | exact H
     have Ny265 := ak hy265
     clear hy265
     have H' := ak H
     clear H
     have hnb29 := NB254_263.out
     have hnc29 := NB263_254.out
     have hcz30_0 : wr.cell? ⟨gb254, 0, none⟩ = some (.int .i64 a0_0) := (blk_cell BK254.out 0).trans rfl
     have hcz30_1 : wr.cell? ⟨gb254, 1, none⟩ = some (.slice A0_1 l0_1.length c0_1) := (blk_cell BK254.out 1).trans rfl
     have hfz30_0 := blk_frozen BK254.out 0
     have hfz30_1 := blk_frozen BK254.out 1
     have hcz31_0 : wr.cell? ⟨gb263, 0, none⟩ = some (u264000) := (blk_cell BK263.out 0).trans rfl
     have hcz31_1 : wr.cell? ⟨gb263, 1, none⟩ = some (u264001) := (blk_cell BK263.out 1).trans rfl
     have hcz31_2 : wr.cell? ⟨gb263, 2, none⟩ = some (.int .i64 0) := (blk_cell BK263.out 2).trans rfl
     have hfz31_0 := blk_frozen BK263.out 0
     have hfz31_1 := blk_frozen BK263.out 1
     have hfz31_2 := blk_frozen BK263.out 2
     have p26 : 0 ≤ (x8_1 : Int) := oda
     have q26 : (x8_1 : Int) < ((x264000_1.length : Int) : Int) := oda
     obtain ⟨go26, co26, eo26, gb26, gl26, cl26, HG26⟩ := Kd.R_form HO_264000.out (by omega)
     (first | cases eo26 | (injection eo26 with ea_ en_ ec_; (first | subst ea_ | (injection ea_ with ea_; subst ea_)); subst ec_; clear en_))
     have GB26 := ak gb26
     have GG26 := ak HG26
     clear gb26 gl26 HG26
     obtain ⟨hx26_0, hf26_0⟩ := Kd.R_celln 0 HO_264000.out (x8_1 : Int) p26 q26
     replace p26 := eq_true p26
     replace q26 := eq_true q26
     have HP32 := Kd.R_putg HO_264000.out (x8_1 : Int) (-1)
     go_wp2_with (first | ((with_reducible refine gate_store (t := 3) (p := 34) rfl ?_); refine store_event (t := 3) (p := 34) (v := ?vo_w33) (w1 := (wr.setCell ⟨go26, (x8_1 : Int).toNat, none⟩ (.int .i64 (-1)))) ?hg ?ho ?hn ?hr ?_; (case ho => rfl); (case hg => rfl); (case hn => rfl); (case hr => first | (go_simp; done) | (go_simp; rfl)); intro w33 hw; have hg : wr.grownBy w33 (some go26) := (by rw [hw]; exact HP32.2); have hp_ : Kd.R (Kd.int .i64) 3 w33 w.heap.size (fun k_ => some k_ ≠ (u264001 : Value).ownBlock) (.slice (some ⟨go26, 0, none⟩) x264000_1.length co26) y264 := (by rw [hw, Ny264.out]; exact HP32.1); clear HP32; have n0_ := ak (hp_); have n1_ := ak (Kd.R_after (v := (.slice (some ⟨go26, 0, none⟩) x264000_1.length co26)) (v1 := (.slice (some ⟨go26, 0, none⟩) x264000_1.length co26)) (ok := (fun _ => True)) (by exact rx (Kd.R_mono HO_264001.out (fun _ hk => ⟨trivial, hk⟩))) hg (.inl rfl)); have n2_ := ak (blk_grown (bx BK254.out) hg (Kd.R_ne HO_264000.out BK254.out (by decide))); have n3_ := ak (blk_grown (bx BK263.out) hg (Kd.R_ne HO_264000.out BK263.out (by decide))); have n4_ := ak ((by rw [hw]; exact below_set (HB.out) GB26.out : Below w.heap.size w w33)); clear HO_264000; clear HO_264001; clear BK254; clear BK263; clear HB; have HO_264000 := n0_; have HO_264001 := n1_; have BK254 := n2_; have BK263 := n3_; have HB := n4_; clear n0_ n1_ n2_ n3_ n4_; clear hg hw hp_; have hcz34_0 : w33.cell? ⟨gb263, 0, none⟩ = some (.slice (some ⟨go26, 0, none⟩) x264000_1.length co26) := (blk_cell BK263.out 0).trans rfl; have hcz34_1 : w33.cell? ⟨gb263, 1, none⟩ = some (u264001) := (blk_cell BK263.out 1).trans rfl; have hcz34_2 : w33.cell? ⟨gb263, 2, none⟩ = some (.int .i64 0) := (blk_cell BK263.out 2).trans rfl; have hfz34_0 := blk_frozen BK263.out 0; have hfz34_1 := blk_frozen BK263.out 1; have hfz34_2 := blk_frozen BK263.out 2; have p28 : 0 ≤ (x8_1 : Int) := oda; have q28 : (x8_1 : Int) < ((x264001_1.length : Int) : Int) := oda; obtain ⟨go28, co28, eo28, gb28, gl28, cl28, HG28⟩ := Kd.R_form HO_264001.out (by omega); (first | cases eo28 | (injection eo28 with ea_ en_ ec_; (first | subst ea_ | (injection ea_ with ea_; subst ea_)); subst ec_; clear en_)); have GB28 := ak gb28; have GG28 := ak HG28; clear gb28 gl28 HG28; obtain ⟨hx28_0, hf28_0⟩ := Kd.R_celln 0 HO_264001.out (x8_1 : Int) p28 q28; replace p28 := eq_true p28; replace q28 := eq_true q28; have n_ := ak (Kd.R_mono (ok' := (fun k_ => some k_ ≠ (.slice (some ⟨go26, 0, none⟩) x264000_1.length co26 : Value).ownBlock)) HO_264001.out (fun k_ hk => hk.2)); clear HO_264001; have HO_264001 := n_; clear n_; obtain ⟨hy35_, hz35_⟩ := Kd.R_celln 0 HO_264001.out (x8_1 : Int) (oda) (oda); have HP35 := Kd.R_putg HO_264001.out (x8_1 : Int) (-1)) | ((with_reducible refine gate_store (t := 3) (p := 38) rfl ?_); refine store_event (t := 3) (p := 38) (v := ?vo_w36) (w1 := (w33.setCell ⟨go28, (x8_1 : Int).toNat, none⟩ (.int .i64 (-1)))) ?hg ?ho ?hn ?hr ?_; (case ho => rfl); (case hg => rfl); (case hn => rfl); (case hr => first | (go_simp; done) | (go_simp; rfl)); intro w36 hw; have hg : w33.grownBy w36 (some go28) := (by rw [hw]; exact HP35.2); have hp_ : Kd.R (Kd.int .i64) 3 w36 w.heap.size (fun k_ => some k_ ≠ (.slice (some ⟨go26, 0, none⟩) x264000_1.length co26 : Value).ownBlock) (.slice (some ⟨go28, 0, none⟩) x264001_1.length co28) y265 := (by rw [hw, Ny265.out]; exact HP35.1); clear HP35; have n0_ := ak (Kd.R_after (v := (.slice (some ⟨go28, 0, none⟩) x264001_1.length co28)) (v1 := (.slice (some ⟨go28, 0, none⟩) x264001_1.length co28)) (ok := (fun _ => True)) (by exact rx (Kd.R_mono HO_264000.out (fun _ hk => ⟨trivial, hk⟩))) hg (.inl rfl)); have n1_ := ak (hp_); have n2_ := ak (blk_grown (bx BK254.out) hg (Kd.R_ne HO_264001.out BK254.out (by decide))); have n3_ := ak (blk_grown (bx BK263.out) hg (Kd.R_ne HO_264001.out BK263.out (by decide))); have n4_ := ak ((by rw [hw]; exact below_set (HB.out) GB28.out : Below w.heap.size w w36)); clear HO_264000; clear HO_264001; clear BK254; clear BK263; clear HB; have HO_264000 := n0_; have HO_264001 := n1_; have BK254 := n2_; have BK263 := n3_; have HB := n4_; clear n0_ n1_ n2_ n3_ n4_; clear hg hw hp_))
     go_roundg k1
     case measure => have := HK1.out; omega
     case rel => exact ⟨(wrap64 (x8_1 + 1)), (y264), (y265), (.slice (some ⟨go26, 0, none⟩) x264000_1.length co26), (.slice (some ⟨go28, 0, none⟩) x264001_1.length co28), (by first | rfl | (simp [*]; done)), H', ⟨by have := HK1.out; omega⟩, ⟨by exact rx (Kd.R_mono HO_264000.out (fun _ hk => hk.2))⟩, ⟨rx HO_264001.out⟩, ⟨bx BK254.out⟩, ⟨bx BK263.out⟩, ⟨lb⟩⟩
    ·
     rw [if_neg c23] at H
     have c23b0 : decide (x8_1 < a0_0) = false := decide_eq_false c23
     clear c23
     have H' := ak H
     clear H
     have hnb37 := NB254_263.out
     have hnc37 := NB263_254.out
     have hcz38_0 : wr.cell? ⟨gb254, 0, none⟩ = some (.int .i64 a0_0) := (blk_cell BK254.out 0).trans rfl
     have hcz38_1 : wr.cell? ⟨gb254, 1, none⟩ = some (.slice A0_1 l0_1.length c0_1) := (blk_cell BK254.out 1).trans rfl
     have hfz38_0 := blk_frozen BK254.out 0
     have hfz38_1 := blk_frozen BK254.out 1
     go_wp2
     go_loopg [9] k1 (fun kq v9 w' => ∃ (x9_2 : Int) (x264000_2 : List Int) (x264001_2 : List Int) (x264002_2 : Int) (u264000 : Value) (u264001 : Value), v9 = .int .i64 x9_2 ∧ Aside0 (compassref04_Visit.l1 kq x9_2 a0_0 l0_1 x264000_2 x264001_2 x264002_2 = some (r1, r2, r3)) ∧ Aside0 (kq ≤ k1) ∧ Aside0 (Kd.R (Kd.int .i64) 3 w' w.heap.size (fun k_ => some k_ ≠ (u264001 : Value).ownBlock) u264000 x264000_2) ∧ Aside0 (Kd.R (Kd.int .i64) 3 w' w.heap.size (fun k_ => some k_ ≠ (u264000 : Value).ownBlock) u264001 x264001_2) ∧ Aside0 (w'.heap[gb254]? = some (.cells #[.int .i64 a0_0, (.slice A0_1 l0_1.length c0_1)] 24 (0, 0))) ∧ Aside0 (w'.heap[gb263]? = some (.cells #[u264000, u264001, .int .i64 x264002_2] 66 (0, 0))) ∧ Aside0 (Below w.heap.size w w'))
     case atStart => exact ⟨(0), (x264000_1), (x264001_1), (0), (u264000), (u264001), (by first | rfl | (simp [*]; done)), H', ⟨Nat.le_refl _⟩, ⟨rx HO_264000.out⟩, ⟨rx HO_264001.out⟩, ⟨bx BK254.out⟩, ⟨bx BK263.out⟩, ⟨lb⟩⟩
     case round =>
      clear H'
      try clear c2; try clear p2; try clear q2; try clear hx2; try clear hf2; try clear c3; try clear p6; try clear c23; try clear c23b0; try clear c24; try clear c24b0; try clear c25; try clear c25b0; try clear p26; try clear q26; try clear hx26; try clear hf26; try clear c27; try clear c27b0; try clear p28; try clear q28; try clear hx28; try clear hf28; try clear c29; try clear c37; try clear hcz30_0; try clear hcz30_1; try clear hcz31_0; try clear hcz31_1; try clear hcz31_2; try clear hcz34_0; try clear hcz34_1; try clear hcz34_2; try clear hcz38_0; try clear hcz38_1; try clear hfz30_0; try clear hfz30_1; try clear hfz31_0; try clear hfz31_1; try clear hfz31_2; try clear hfz34_0; try clear hfz34_1; try clear hfz34_2; try clear hfz38_0; try clear hfz38_1; try clear hx26_0; try clear hx28_0; try clear p2; try clear p26; try clear p28; try clear q26; try clear q28
      obtain ⟨x9_2, x264000_2, x264001_2, x264002_2, u264000, u264001, rfl, HA, HK2, HO_264000, HO_264001, BK254, BK263, HB⟩ := hrel
      cases gk with
      | zero => exact absurd HA.out (by simp [compassref04_Visit.l1])
      | succ k2 =>
       have H := HA.out
       clear HA
       simp only [compassref04_Visit.l1] at H
       by_cases c39 : x9_2 < a0_0
       ·
        rw [if_pos c39] at H
        have c39b0 : decide (x9_2 < a0_0) = true := decide_eq_true c39
        clear c39
        by_cases c40 : 0 ≤ x9_2
        rotate_left
        ·
         rw [if_neg c40] at H
         exact absurd H (by simp)
        rw [if_pos c40] at H
        have c40b0 : decide (0 ≤ x9_2) = true := decide_eq_true c40
        clear c40
        by_cases c41 : x9_2 < (x264000_2.length : Int)
        rotate_left
        ·
         rw [if_neg c41] at H
         exact absurd H (by simp)
        rw [if_pos c41] at H
        have c41b0 : decide (x9_2 < (x264000_2.length : Int)) = true := decide_eq_true c41
        clear c41
        by_cases c42 : (rd x264000_2 x9_2) < 0
        ·
         rw [if_pos c42] at H
         have c42b0 : decide ((rd x264000_2 x9_2) < 0) = true := decide_eq_true c42
         clear c42
         replace H := Option.bind_eq_some_iff.mp H
         obtain ⟨⟨t267, t270, t273⟩, A430, H⟩ := H
         replace H : (compassref04_Visit.l1 k2 (wrap64 (x9_2 + 1)) a0_0 l0_1 t267 t270 t273) = some (r1, r2, r3) := H
         have A43 := ak A430
         clear A430
         have H' := ak H
         clear H
         have hnb44 := NB254_263.out
         have hnc44 := NB263_254.out
         have hcz45_0 : wr.cell? ⟨gb254, 0, none⟩ = some (.int .i64 a0_0) := (blk_cell BK254.out 0).trans rfl
         have hcz45_1 : wr.cell? ⟨gb254, 1, none⟩ = some (.slice A0_1 l0_1.length c0_1) := (blk_cell BK254.out 1).trans rfl
         have hfz45_0 := blk_frozen BK254.out 0
         have hfz45_1 := blk_frozen BK254.out 1
         have hcz46_0 : wr.cell? ⟨gb263, 0, none⟩ = some (u264000) := (blk_cell BK263.out 0).trans rfl
         have hcz46_1 : wr.cell? ⟨gb263, 1, none⟩ = some (u264001) := (blk_cell BK263.out 1).trans rfl
         have hcz46_2 : wr.cell? ⟨gb263, 2, none⟩ = some (.int .i64 x264002_2) := (blk_cell BK263.out 2).trans rfl
         have hfz46_0 := blk_frozen BK263.out 0
         have hfz46_1 := blk_frozen BK263.out 1
         have hfz46_2 := blk_frozen BK263.out 2
         obtain ⟨Ao47, co47, eo47⟩ := Kd.R_slice HO_264000.out
         subst eo47
         have p266 : 0 ≤ (x9_2 : Int) := oda
         have q266 : x9_2 < (x264000_2.length : Int) := oda
         obtain ⟨ad266, e266, hx266_0⟩ := Kd.at_int (Kd.R_reads' HO_264000.out).2.2 x9_2 p266 q266
         cases e266
         replace p266 := eq_true p266
         replace q266 := eq_true q266
         obtain ⟨Ao48, co48, eo48⟩ := Kd.R_slice HO_264001.out
         subst eo48
         go_wp2_with (first | ((with_reducible refine gate_callee (f := 37) rfl ?_); refine goesL_ (some 54) rfl rfl Try.func37 (by kernel_rfl) rfl #[.agg #[.int .i64 a0_0, .slice A0_1 l0_1.length c0_1], .agg #[.slice (some ad266) x264000_2.length co47, .slice Ao48 x264001_2.length co48, .int .i64 x264002_2], .int .i64 x9_2] rfl (by (try simp only [List.map_toArray, List.map_cons, List.map_nil]); first | done | rfl | (simp only [List.length_drop, List.length_take]; rfl)) ?_; (with_reducible refine (compassref04_visit.calls k2 a0_0 _ _ l0_1 (fun k_ => some k_ = (.slice (some ad266) x264000_2.length co47 : Value).ownBlock) (.slice (some ad266) x264000_2.length co47) x264000_2 (fun k_ => some k_ = (.slice Ao48 x264001_2.length co48 : Value).ownBlock) (.slice Ao48 x264001_2.length co48) x264001_2 x264002_2 x9_2 t267 t270 t273 w _ ?side1 ?side2 ?side3 ?side4 ?side5 ?side6 ?side7 A43.out).mono ?_); (case side1 => repeat (first | (with_reducible first | exact HB.out | apply below_alloc | apply pw_below_drewN | apply below_drew1 | refine below_set ?_ GE254.out | refine below_set ?_ GE263.out) | exact HB.out)); (case side2 => exact Kd.C_kept_came k41_heap HR0_1.out lb (fun k_ hs_ => Or.elim hs_ (fun e_ => (fun e_ => Kd.R_base HO_264000.out k_ e_.symm) e_) (fun e_ => (fun e_ => Kd.R_base HO_264001.out k_ e_.symm) e_))); (case side3 => exact HC0_1.out); (case side4 => exact Kd.R_tight rfl HO_264000.out); (case side5 => exact fun k_ e_ => (HO_264000.out.1 k_ e_.symm)); (case side6 => exact Kd.R_tight rfl HO_264001.out); (case side7 => exact fun k_ e_ => (HO_264001.out.1 k_ e_.symm)); rintro e w49 ⟨v268, v271, rfl, ho0, ho1, hb, hkp⟩; refine ⟨_, rfl, ?_⟩; have n0_ := ak (blk_kept (bx BK254.out) hkp (fun hs_ => Or.elim hs_ (fun e_ => (fun e_ => (Kd.R_ne HO_264000.out BK254.out (by decide)) e_) e_) (fun e_ => (fun e_ => (Kd.R_ne HO_264001.out BK254.out (by decide)) e_) e_))); have n1_ := ak (blk_kept (bx BK263.out) hkp (fun hs_ => Or.elim hs_ (fun e_ => (fun e_ => (Kd.R_ne HO_264000.out BK263.out (by decide)) e_) e_) (fun e_ => (fun e_ => (Kd.R_ne HO_264001.out BK263.out (by decide)) e_) e_))); have n2_ := ak (Kd.R_mono (ok' := fun k_ => some k_ ≠ (v271 : Value).ownBlock) ho0 (fun k_ hk_ => hk_.2)); have n3_ := ak (Kd.R_mono (ok' := fun k_ => some k_ ≠ (v268 : Value).ownBlock) ho1 (fun k_ hk_ => hk_.2)); have n4_ := ak (hb); clear BK254; clear BK263; clear HB; clear HO_264000; clear HO_264001; have BK254 := n0_; have BK263 := n1_; have HO269 := n2_; have HO272 := n3_; have HB := n4_; clear n0_ n1_ n2_ n3_ n4_; (try clear hb); (try clear hkp); (try clear ho0); (try clear ho1); obtain ⟨Ao50, co50, eo50⟩ := Kd.R_slice HO269.out; subst eo50; have hcz51_0 : w49.cell? ⟨gb263, 0, none⟩ = some (.slice (some ad266) x264000_2.length co47) := (blk_cell BK263.out 0).trans rfl; have hcz51_1 : w49.cell? ⟨gb263, 1, none⟩ = some (.slice Ao48 x264001_2.length co48) := (blk_cell BK263.out 1).trans rfl; have hcz51_2 : w49.cell? ⟨gb263, 2, none⟩ = some (.int .i64 x264002_2) := (blk_cell BK263.out 2).trans rfl; have hfz51_0 := blk_frozen BK263.out 0; have hfz51_1 := blk_frozen BK263.out 1; have hfz51_2 := blk_frozen BK263.out 2; obtain ⟨Ao52, co52, eo52⟩ := Kd.R_slice HO272.out; subst eo52))
         go_roundg k2
         case measure => have := HK1.out; have := HK2.out; omega
         case rel => exact ⟨(wrap64 (x9_2 + 1)), (t267), (t270), (t273), (.slice Ao50 t267.length co50), (.slice Ao52 t270.length co52), (by first | rfl | (simp [*]; done)), H', ⟨by have := HK1.out; have := HK2.out; omega⟩, ⟨by exact rx (Kd.R_mono (Kd.R_far (p := ⟨gb263, 2, none⟩) (Kd.R_far (p := ⟨gb263, 1, none⟩) (Kd.R_far (p := ⟨gb263, 0, none⟩) (Kd.R_types HO269.out BK263.out (by decide)) (fun _ hk => hk.2) (.slice Ao50 t267.length co50)) (fun _ hk => hk.2) (.slice Ao52 t270.length co52)) (fun _ hk => hk.2) (.int .i64 t273)) (fun _ hk => hk.1))⟩, ⟨by exact rx (Kd.R_mono (Kd.R_far (p := ⟨gb263, 2, none⟩) (Kd.R_far (p := ⟨gb263, 1, none⟩) (Kd.R_far (p := ⟨gb263, 0, none⟩) (Kd.R_types HO272.out BK263.out (by decide)) (fun _ hk => hk.2) (.slice Ao50 t267.length co50)) (fun _ hk => hk.2) (.slice Ao52 t270.length co52)) (fun _ hk => hk.2) (.int .i64 t273)) (fun _ hk => hk.1))⟩, ⟨by (with_reducible repeat (first | refine blk_drewN ?_ _ | refine blk_drew ?_ | refine blk_alloc ?_ _)); refine blk_far ?_ NB254_263.out _; (with_reducible repeat (first | refine blk_drewN ?_ _ | refine blk_drew ?_ | refine blk_alloc ?_ _)); refine blk_far ?_ NB254_263.out _; (with_reducible repeat (first | refine blk_drewN ?_ _ | refine blk_drew ?_ | refine blk_alloc ?_ _)); refine blk_far ?_ NB254_263.out _; exact bx BK254.out⟩, ⟨by (with_reducible repeat (first | refine blk_drewN ?_ _ | refine blk_drew ?_ | refine blk_alloc ?_ _)); refine blk_put (cs := #[.slice Ao50 t267.length co50, .slice Ao52 t270.length co52, .int .i64 x264002_2]) ?_ 2 _ rfl; (with_reducible repeat (first | refine blk_drewN ?_ _ | refine blk_drew ?_ | refine blk_alloc ?_ _)); refine blk_put (cs := #[.slice Ao50 t267.length co50, .slice Ao48 x264001_2.length co48, .int .i64 x264002_2]) ?_ 1 _ rfl; (with_reducible repeat (first | refine blk_drewN ?_ _ | refine blk_drew ?_ | refine blk_alloc ?_ _)); refine blk_put (cs := #[.slice (some ad266) x264000_2.length co47, .slice Ao48 x264001_2.length co48, .int .i64 x264002_2]) ?_ 0 _ rfl; exact bx BK263.out⟩, ⟨lb⟩⟩
        ·
         rw [if_neg c42] at H
         have c42b0 : decide ((rd x264000_2 x9_2) < 0) = false := decide_eq_false c42
         clear c42
         have H' := ak H
         clear H
         have hnb53 := NB254_263.out
         have hnc53 := NB263_254.out
         have hcz54_0 : wr.cell? ⟨gb254, 0, none⟩ = some (.int .i64 a0_0) := (blk_cell BK254.out 0).trans rfl
         have hcz54_1 : wr.cell? ⟨gb254, 1, none⟩ = some (.slice A0_1 l0_1.length c0_1) := (blk_cell BK254.out 1).trans rfl
         have hfz54_0 := blk_frozen BK254.out 0
         have hfz54_1 := blk_frozen BK254.out 1
         have hcz55_0 : wr.cell? ⟨gb263, 0, none⟩ = some (u264000) := (blk_cell BK263.out 0).trans rfl
         have hcz55_1 : wr.cell? ⟨gb263, 1, none⟩ = some (u264001) := (blk_cell BK263.out 1).trans rfl
         have hcz55_2 : wr.cell? ⟨gb263, 2, none⟩ = some (.int .i64 x264002_2) := (blk_cell BK263.out 2).trans rfl
         have hfz55_0 := blk_frozen BK263.out 0
         have hfz55_1 := blk_frozen BK263.out 1
         have hfz55_2 := blk_frozen BK263.out 2
         obtain ⟨Ao56, co56, eo56⟩ := Kd.R_slice HO_264000.out
         subst eo56
         have p266 : 0 ≤ (x9_2 : Int) := oda
         have q266 : x9_2 < (x264000_2.length : Int) := oda
         obtain ⟨ad266, e266, hx266_0⟩ := Kd.at_int (Kd.R_reads' HO_264000.out).2.2 x9_2 p266 q266
         cases e266
         replace p266 := eq_true p266
         replace q266 := eq_true q266
         go_wp2
         go_roundg k2
         case measure => have := HK1.out; have := HK2.out; omega
         case rel => exact ⟨(wrap64 (x9_2 + 1)), (x264000_2), (x264001_2), (x264002_2), (.slice (some ad266) x264000_2.length co56), (u264001), (by first | rfl | (simp [*]; done)), H', ⟨by have := HK1.out; have := HK2.out; omega⟩, ⟨rx HO_264000.out⟩, ⟨rx HO_264001.out⟩, ⟨bx BK254.out⟩, ⟨bx BK263.out⟩, ⟨lb⟩⟩
       ·
        rw [if_neg c39] at H
        have c39b0 : decide (x9_2 < a0_0) = false := decide_eq_false c39
        clear c39
        simp only [Option.some.injEq, Prod.mk.injEq] at H
        obtain ⟨rfl, rfl, rfl⟩ := H
        have hnb57 := NB254_263.out
        have hnc57 := NB263_254.out
        have hcz58_0 : wr.cell? ⟨gb254, 0, none⟩ = some (.int .i64 a0_0) := (blk_cell BK254.out 0).trans rfl
        have hcz58_1 : wr.cell? ⟨gb254, 1, none⟩ = some (.slice A0_1 l0_1.length c0_1) := (blk_cell BK254.out 1).trans rfl
        have hfz58_0 := blk_frozen BK254.out 0
        have hfz58_1 := blk_frozen BK254.out 1
        try go_wp2
        have n0_ := ak (Kd.R_drew HO_264000.out)
        have n1_ := ak (Kd.R_drew HO_264001.out)
        have n2_ := ak (blk_drew BK254.out)
        have n3_ := ak (blk_drew BK263.out)
        have n4_ := ak (below_drew1 HB.out)
        clear HO_264000
        clear HO_264001
        clear BK254
        clear BK263
        clear HB
        have HO_264000 := n0_
        have HO_264001 := n1_
        have BK254 := n2_
        have BK263 := n3_
        have HB := n4_
        clear n0_ n1_ n2_ n3_ n4_
        refine start_ (n := 7) (S := fun w' => w'.cell? ⟨gb263, 0, none⟩ = some (u264000) ∧ w'.cell? ⟨gb263, 1, none⟩ = some (u264001) ∧ w'.cell? ⟨gb263, 2, none⟩ = some (.int .i64 x264002_2)) (ds := []) #[false, false, false, false, false, false, false] (by kernel_rfl) rfl rfl ⟨(blk_cell BK263.out 0).trans rfl, (blk_cell BK263.out 1).trans rfl, (blk_cell BK263.out 2).trans rfl⟩ (fun hHeld => ?_)
        generalize wr.drew = w59 at HO_264000 HO_264001 BK254 BK263 HB hHeld ⊢
        refine pure_ (i := 0) (N := some 55) (v := ?_) (a' := ?_) #[true, false, false, false, false, false, false] rfl rfl (by kernel_rfl) (fun _ _ _ h => h) (Or.inl ⟨by rfl, ?_⟩) ?_ ?_; rotate_left; intro w'; go_simp; with_reducible rfl; rotate_left; simp only [Act.put, List.setIfInBounds_toArray, List.set_cons_zero, List.set_cons_succ, i64_w, i32_w]; rfl
        refine pure_ (i := 2) (N := some 57) (v := ?_) (a' := ?_) #[true, false, true, false, false, false, false] rfl rfl (by kernel_rfl) (fun _ _ _ h => h) (Or.inl ⟨by rfl, ?_⟩) ?_ ?_; rotate_left; intro w'; go_simp; with_reducible rfl; rotate_left; simp only [Act.put, List.setIfInBounds_toArray, List.set_cons_zero, List.set_cons_succ, i64_w, i32_w]; rfl
        refine take_ (i := 1) (N := some 56) (v := ?_) (a' := ?_) #[true, true, true, false, false, false, false] rfl rfl (by kernel_rfl) (fun _ _ _ h => h) (Or.inl ⟨by rfl, ?_⟩) hHeld ?_ ?_; rotate_left; rintro w' ⟨s0, s1, s2⟩; go_simp; with_reducible rfl; rotate_left; simp only [Act.put, List.setIfInBounds_toArray, List.set_cons_zero, List.set_cons_succ, i64_w, i32_w]; rfl
        refine pure_ (i := 4) (N := some 2) (v := ?_) (a' := ?_) #[true, true, true, false, true, false, false] rfl rfl (by kernel_rfl) (fun _ _ _ h => h) (Or.inl ⟨by rfl, ?_⟩) ?_ ?_; rotate_left; intro w'; go_simp; with_reducible rfl; rotate_left; simp only [Act.put, List.setIfInBounds_toArray, List.set_cons_zero, List.set_cons_succ, i64_w, i32_w]; rfl
        refine take_ (i := 3) (N := some 58) (v := ?_) (a' := ?_) #[true, true, true, true, true, false, false] rfl rfl (by kernel_rfl) (fun _ _ _ h => h) (Or.inl ⟨by rfl, ?_⟩) hHeld ?_ ?_; rotate_left; rintro w' ⟨s0, s1, s2⟩; go_simp; with_reducible rfl; rotate_left; simp only [Act.put, List.setIfInBounds_toArray, List.set_cons_zero, List.set_cons_succ, i64_w, i32_w]; rfl
        refine pure_ (i := 5) (N := some 3) (v := ?_) (a' := ?_) #[true, true, true, true, true, true, false] rfl rfl (by kernel_rfl) (fun _ _ _ h => h) (Or.inl ⟨by rfl, ?_⟩) ?_ ?_; rotate_left; intro w'; go_simp; with_reducible rfl; rotate_left; simp only [Act.put, List.setIfInBounds_toArray, List.set_cons_zero, List.set_cons_succ, i64_w, i32_w]; rfl
        refine pure_ (i := 6) (N := some 4) (v := ?_) (a' := ?_) #[true, true, true, true, true, true, true] rfl rfl (by kernel_rfl) (fun _ _ _ h => h) (Or.inl ⟨by rfl, ?_⟩) ?_ ?_; rotate_left; intro w'; go_simp; with_reducible rfl; rotate_left; simp only [Act.put, List.setIfInBounds_toArray, List.set_cons_zero, List.set_cons_succ, i64_w, i32_w]; rfl
        refine done_ (by kernel_rfl) ?_
        try go_wp2
        go_ret3
        exact ⟨_, _, by first | rfl | (simp [errW_none, errW_some] <;> rfl) | (simp [*, errW_none, errW_some] <;> rfl), by exact rx HO_264000.out, by exact rx HO_264001.out, lb⟩
 ·
  rw [if_neg c3] at H
  have c3b0 : (t255 == 0) = false := beq_eq_false_iff_ne.mpr c3
  have c3b1 : (t255 != 0) = true := bne_iff_ne.mpr c3
  simp only [Option.some.injEq, Prod.mk.injEq] at H
  obtain ⟨rfl, rfl, rfl⟩ := H
  go_enter Try.func20, Try.ntmps20
  go_wp2_with (first | ((with_reducible refine gate_dst (N := 1) rfl ?_); refine box_event ?hg (N := 1) ?hd (cs := #[.int .i64 a0_0, .slice A0_1 l0_1.length c0_1]) (t := 24) ?hr ?_; (case hd => rfl); (case hg => rfl); (case hr => first | (go_simp; done) | (go_simp; rfl)); intro gb254 hg w60 hbox hb; have n0_ := ak (below_step lb hb); have n1_ := ak (hbox); have n2_ := ak ((by rw [hg]; exact (below_size lb) : w.heap.size ≤ gb254)); have n3_ := ak ((by rw [hg]; exact (below_size lb) : w.heap.size ≤ gb254)); clear HB; have HB := n0_; have BK254 := n1_; have GW254 := n2_; have GE254 := n3_; clear n0_ n1_ n2_ n3_; clear hb hbox hg; have hcz61_0 : w60.cell? ⟨gb254, 0, none⟩ = some (.int .i64 a0_0) := (blk_cell BK254.out 0).trans rfl; have hcz61_1 : w60.cell? ⟨gb254, 1, none⟩ = some (.slice A0_1 l0_1.length c0_1) := (blk_cell BK254.out 1).trans rfl; have hfz61_0 := blk_frozen BK254.out 0; have hfz61_1 := blk_frozen BK254.out 1) | ((with_reducible refine gate_callee (f := 34) rfl ?_); refine goesL_ (some 12) rfl rfl Try.func34 (by kernel_rfl) rfl #[.agg #[.int .i64 a0_0, .slice A0_1 l0_1.length c0_1]] rfl (by (try simp only [List.map_toArray, List.map_cons, List.map_nil]); first | done | rfl | (simp only [List.length_drop, List.length_take]; rfl)) ?_; (with_reducible refine (compassref03_Check.calls k a0_0 _ _ l0_1 t255 t256 _ ?side1 ?side2 A2.out).mono ?_); (case side1 => repeat (first | exact (Kd.C_below HR0_1.out HB.out) | (with_reducible refine Kd.C_alloc ?_ _) | (with_reducible refine Kd.C_drewN ?_ _) | (with_reducible refine Kd.C_drew ?_))); (case side2 => exact HC0_1.out); rintro e w62 ⟨rfl, hb⟩; refine ⟨_, rfl, ?_⟩; have n0_ := ak (blk_below (bx BK254.out) hb); have n1_ := ak (below_step lb hb); clear BK254; clear HB; have BK254 := n0_; have HB := n1_; clear n0_ n1_; (try clear hb); (try clear hb2); (try clear hk); (try clear hi)))
  go_ret3
  exact ⟨_, _, by first | rfl | (simp [errW_none, errW_some] <;> rfl) | (simp [*, errW_none, errW_some] <;> rfl), by first | exact Kd.R_nil _ _ _ _ _ | exact Kd.N_nil _ _ _ _ _ | exact Kd.V_nil _ _ _ _ _ | exact Kd.Q_nil _ _ _ _ _ | exact Kd.S_nil _ _ _ _ _, by first | exact Kd.R_nil _ _ _ _ _ | exact Kd.N_nil _ _ _ _ _ | exact Kd.V_nil _ _ _ _ _ | exact Kd.Q_nil _ _ _ _ _ | exact Kd.S_nil _ _ _ _ _, lb⟩

end Go.Proofs.Ytacklfnnpiobgaa.Q
