-- PRINTED by print.py (a twelfth state) out of the translation. Not trusted: Lean checks it.
import Derived.Test.YtpmclhkednehhaaQ0
import Derived.Test.YtpmclhkednehhaaQ10
namespace Go.Proofs.Ytpmclhkednehhaa.Q
open Go.RowKit Go.Proofs.YtpmclhkednehhaaW.PrintWords Go.Proofs.YtpmclhkednehhaaW.PrintLast Go.Proofs.YtpmclhkednehhaaW.PrintMore
attribute [local go_sem] max2_int min2_int max_two min_two max_three min_three max_four min_four   -- for this text's walks alone
set_option linter.unusedVariables false
set_option linter.unusedSimpArgs false

/-! ### compassref03_Check: function 34 -/
mutual
def compassref03_Check.j0 : Nat → Bool → Int → List (S39) → Option (Int × Int)
  | 0, _, _, _ => none
  | k + 1, x19, x236000, x236001 => if x19 = true then (some (3, 0)) else (compassref03_Check.l0 k 0 x236000 x236001)
def compassref03_Check.l0 : Nat → Int → Int → List (S39) → Option (Int × Int)
  | 0, _, _, _ => none
  | k + 1, x4, x236000, x236001 => if x4 < (x236001.length : Int) then (if 0 ≤ x4 then ((compassref03_Bad.f k x236000 ((rd_T39 x236001 x4).f0) ((rd_T39 x236001 x4).f1) ((rd_T39 x236001 x4).f2) ((rd_T39 x236001 x4).f3)).bind fun t237 => (if t237 = 0 then (compassref03_Check.l0 k (wrap64 (x4 + 1)) x236000 x236001) else (some (t237, x4)))) else (none)) else (some (0, 0))
end
def compassref03_Check.f (k : Nat) (a0_0 : Int) (l0_1 : List (S39)) : Option (Int × Int) := if a0_0 < 0 then (compassref03_Check.j0 k true a0_0 l0_1) else (if a0_0 > 1024 then (compassref03_Check.j0 k true a0_0 l0_1) else (compassref03_Check.j0 k (decide ((l0_1.length : Int) > 4096)) a0_0 l0_1))
theorem compassref03_Check.mono_l : ∀ k, (∀ y0 y1 y2, LeO (compassref03_Check.j0 k y0 y1 y2) (compassref03_Check.j0 (k + 1) y0 y1 y2)) ∧ (∀ y0 y1 y2, LeO (compassref03_Check.l0 k y0 y1 y2) (compassref03_Check.l0 (k + 1) y0 y1 y2))
  | 0 => ⟨fun _ _ _ r h => by simp [compassref03_Check.j0] at h, fun _ _ _ r h => by simp [compassref03_Check.l0] at h⟩
  | k + 1 => by
    obtain ⟨ih0, ih1⟩ := compassref03_Check.mono_l k
    refine ⟨?_, ?_⟩
    · intro y0 y1 y2
      unfold compassref03_Check.j0
      repeat' first
      | (with_reducible exact ih0 _ _ _)
      | (with_reducible exact ih1 _ _ _)
      | (with_reducible exact compassref03_Bad.mono _ _ _ _ _ _)
      | (with_reducible exact LeO.refl _)
      | (with_reducible exact LeO.none _)
      | (with_reducible refine LeO.ite ?_ ?_)
      | (with_reducible refine LeO.bind ?_ (fun _ => ?_))
      | exact ih0 _ _ _
      | exact ih1 _ _ _
      | exact compassref03_Bad.mono _ _ _ _ _ _
      | exact LeO.none _
      | refine LeO.ite ?_ ?_
      | refine LeO.bind ?_ (fun _ => ?_)
    · intro y0 y1 y2
      unfold compassref03_Check.l0
      repeat' first
      | (with_reducible exact ih0 _ _ _)
      | (with_reducible exact ih1 _ _ _)
      | (with_reducible exact compassref03_Bad.mono _ _ _ _ _ _)
      | (with_reducible exact LeO.refl _)
      | (with_reducible exact LeO.none _)
      | (with_reducible refine LeO.ite ?_ ?_)
      | (with_reducible refine LeO.bind ?_ (fun _ => ?_))
      | exact ih0 _ _ _
      | exact ih1 _ _ _
      | exact compassref03_Bad.mono _ _ _ _ _ _
      | exact LeO.none _
      | refine LeO.ite ?_ ?_
      | refine LeO.bind ?_ (fun _ => ?_)
theorem compassref03_Check.mono : ∀ a0 a1 k, LeO (compassref03_Check.f k a0 a1) (compassref03_Check.f (k + 1) a0 a1) := by
  intro a0 a1 k
  obtain ⟨ih0, ih1⟩ := compassref03_Check.mono_l k
  unfold compassref03_Check.f
  repeat' first
      | (with_reducible exact ih0 _ _ _)
      | (with_reducible exact ih1 _ _ _)
      | (with_reducible exact compassref03_Bad.mono _ _ _ _ _ _)
      | (with_reducible exact LeO.refl _)
      | (with_reducible exact LeO.none _)
      | (with_reducible refine LeO.ite ?_ ?_)
      | (with_reducible refine LeO.bind ?_ (fun _ => ?_))
      | exact ih0 _ _ _
      | exact ih1 _ _ _
      | exact compassref03_Bad.mono _ _ _ _ _ _
      | exact LeO.none _
      | refine LeO.ite ?_ ?_
      | refine LeO.bind ?_ (fun _ => ?_)
def compassref03_Check.T6 : Bool × List (List Nat × List Nat) := (true, [([], []), ([0], [0]), ([], []), ([2], [2]), ([], []), ([3, 4], [3, 4]), ([5], [5]), ([1, 6], [1, 6]), ([7, 7, 0, 1, 2, 3, 4, 5, 6, 7], [7])])
def compassref03_Check.B6 : List Nat := [0, 1, 0, 4, 0, 28, 60, 127, 255]
theorem compassref03_Check.tab6 : rtab .any (opsOf Try.f10 6) = compassref03_Check.T6 := by kernel_rfl
theorem compassref03_Check.bits6 : waitsOk compassref03_Check.T6.2 compassref03_Check.B6 = true := by kernel_rfl
set_option maxHeartbeats 8000000 in
set_option maxRecDepth 100000 in
theorem compassref03_Check.calls (k : Nat) (a0_0 : Int) (A0_1 : Option Addr) (c0_1 : Nat) (l0_1 : List (S39)) (r1 : Int) (r2 : Int) (w : World) (hr0_1 : Kd.C k39 w A0_1 l0_1.length l0_1) (hc0_1 : l0_1.length ≤ c0_1) (h : compassref03_Check.f k a0_0 l0_1 = some (r1, r2)) :
    Calls Try.prog 10 #[.agg #[.int .i64 a0_0, .slice A0_1 l0_1.length c0_1]] w fun e w' => e = .returned (.tuple #[.int .i64 r1, .int .i64 r2]) ∧ Below w.heap.size w w' := by
 have hu24 := Try.underlying24
 have hu41 := Try.underlying39
 have HR0_1 := ak hr0_1
 have HC0_1 := ak hc0_1
 clear hr0_1 hc0_1
 have HB := ak (Below.refl w.heap.size w)
 have H : (if a0_0 < 0 then (compassref03_Check.j0 k true a0_0 l0_1) else (if a0_0 > 1024 then (compassref03_Check.j0 k true a0_0 l0_1) else (compassref03_Check.j0 k (decide ((l0_1.length : Int) > 4096)) a0_0 l0_1))) = some (r1, r2) := h
 clear h
 have HC2 := ak H
 clear H
 go_enter Try.func10, Try.ntmps10
 go_upto_region 1 with (first | ((with_reducible refine gate_dst (N := 1) rfl ?_); (try (refine gate_guard (by rfl) ?_; dsimp only)); refine box_event ?hg (N := 1) ?hd (cs := #[.int .i64 a0_0, .slice A0_1 l0_1.length c0_1]) (t := 24) ?hr ?_; (case hd => rfl); (case hg => rfl); (case hr => first | (go_simp; done) | (go_simp; rfl)); intro gb235 hg w3 hbox hb; have n0_ := ak (below_step lb hb); have n1_ := ak (hbox); have n2_ := ak ((by rw [hg]; exact (below_size lb) : w.heap.size ≤ gb235)); have n3_ := ak ((by rw [hg]; exact (below_size lb) : w.heap.size ≤ gb235)); clear HB; have HB := n0_; have BK235 := n1_; have GW235 := n2_; have GE235 := n3_; clear n0_ n1_ n2_ n3_; clear hb hbox hg))
 (try simp only [Act.put, List.setIfInBounds_toArray, List.set_cons_zero, List.set_cons_succ])
 go_cut [19] (fun v19 wc => ∃ (kq : Nat) (x19_1 : Bool), v19 = .bool x19_1 ∧ Aside0 (compassref03_Check.j0 kq x19_1 a0_0 l0_1 = some (r1, r2)) ∧ Aside0 (kq ≤ k) ∧ Aside0 (wc.heap[gb235]? = some (.cells #[.int .i64 a0_0, (.slice A0_1 l0_1.length c0_1)] 24 (0, 0))) ∧ Aside0 (Below w.heap.size w wc))
 case first =>
  have H := HC2.out
  clear HC2
  by_cases c4 : a0_0 < 0
  ·
   rw [if_pos c4] at H
   have c4b0 : decide (a0_0 < 0) = true := decide_eq_true c4
   clear c4
   (first | rw [c4b0] | (simp only [i64_w, i32_w]; rw [c4b0]) | skip)
   have H' := ak H
   clear H
   have hcz5_0 : w3.cell? ⟨gb235, 0, none⟩ = some (.int .i64 a0_0) := (blk_cell BK235.out 0).trans rfl
   have hcz5_1 : w3.cell? ⟨gb235, 1, none⟩ = some (.slice A0_1 l0_1.length c0_1) := (blk_cell BK235.out 1).trans rfl
   have hfz5_0 := blk_frozen BK235.out 0
   have hfz5_1 := blk_frozen BK235.out 1
   go_wp2
   go_meet
   case rel => exact ⟨_, (true), (by first | rfl | (simp [*]; done)), H', ⟨by first | omega | exact Nat.le_refl _⟩, ⟨bx BK235.out⟩, ⟨lb⟩⟩
  ·
   rw [if_neg c4] at H
   have c4b0 : decide (a0_0 < 0) = false := decide_eq_false c4
   clear c4
   (first | rw [c4b0] | (simp only [i64_w, i32_w]; rw [c4b0]) | skip)
   by_cases c6 : a0_0 > 1024
   ·
    rw [if_pos c6] at H
    have c6b0 : decide (1024 < a0_0) = true := decide_eq_true c6
    clear c6
    have H' := ak H
    clear H
    have hcz7_0 : w3.cell? ⟨gb235, 0, none⟩ = some (.int .i64 a0_0) := (blk_cell BK235.out 0).trans rfl
    have hcz7_1 : w3.cell? ⟨gb235, 1, none⟩ = some (.slice A0_1 l0_1.length c0_1) := (blk_cell BK235.out 1).trans rfl
    have hfz7_0 := blk_frozen BK235.out 0
    have hfz7_1 := blk_frozen BK235.out 1
    go_wp2
    go_meet
    case rel => exact ⟨_, (true), (by first | rfl | (simp [*]; done)), H', ⟨by first | omega | exact Nat.le_refl _⟩, ⟨bx BK235.out⟩, ⟨lb⟩⟩
   ·
    rw [if_neg c6] at H
    have c6b0 : decide (1024 < a0_0) = false := decide_eq_false c6
    clear c6
    have H' := ak H
    clear H
    have hcz8_0 : w3.cell? ⟨gb235, 0, none⟩ = some (.int .i64 a0_0) := (blk_cell BK235.out 0).trans rfl
    have hcz8_1 : w3.cell? ⟨gb235, 1, none⟩ = some (.slice A0_1 l0_1.length c0_1) := (blk_cell BK235.out 1).trans rfl
    have hfz8_0 := blk_frozen BK235.out 0
    have hfz8_1 := blk_frozen BK235.out 1
    go_wp2
    go_meet
    case rel => exact ⟨_, (decide ((l0_1.length : Int) > 4096)), (by first | rfl | (simp [*]; done)), H', ⟨by first | omega | exact Nat.le_refl _⟩, ⟨bx BK235.out⟩, ⟨lb⟩⟩
 case rest =>
  clear HC2
  try clear p2; try clear c3; try clear c4; try clear c4b0; try clear c6; try clear c6b0; try clear hcz5_0; try clear hcz5_1; try clear hcz7_0; try clear hcz7_1; try clear hcz8_0; try clear hcz8_1; try clear hfz5_0; try clear hfz5_1; try clear hfz7_0; try clear hfz7_1; try clear hfz8_0; try clear hfz8_1
  obtain ⟨kq, x19_1, rfl, HA, HJ1, BK235, HB⟩ := hcut
  cases kq with
  | zero => exact absurd HA.out (by simp [compassref03_Check.j0])
  | succ kj1 =>
   have H := HA.out
   clear HA
   simp only [compassref03_Check.j0] at H
   by_cases c9 : x19_1 = true
   ·
    subst c9
    have H1 : (some (3, 0)) = some (r1, r2) := by rw [if_pos rfl] at H; exact H
    clear H
    have H := H1
    clear H1
    simp only [Option.some.injEq, Prod.mk.injEq] at H
    obtain ⟨rfl, rfl⟩ := H
    go_wp2
    go_ret2
    exact ⟨by first | rfl | (simp [errW_none, errW_some] <;> rfl) | (simp [*, errW_none, errW_some] <;> rfl), lb⟩
   ·
    replace c9 := Bool.eq_false_iff.mpr c9
    subst c9
    have H1 : (compassref03_Check.l0 kj1 0 a0_0 l0_1) = some (r1, r2) := by rw [if_neg (show ¬ (false = true) by decide)] at H; exact H
    clear H
    have H := H1
    clear H1
    have H' := ak H
    clear H
    go_wp2
    go_loopg [4] kj1 (fun kq v4 w' => ∃ (x4_2 : Int), v4 = .int .i64 x4_2 ∧ Aside0 (compassref03_Check.l0 kq x4_2 a0_0 l0_1 = some (r1, r2)) ∧ Aside0 (kq ≤ kj1) ∧ Aside0 (w'.heap[gb235]? = some (.cells #[.int .i64 a0_0, (.slice A0_1 l0_1.length c0_1)] 24 (0, 0))) ∧ Aside0 (Below w.heap.size w w'))
    case atStart => exact ⟨(0), (by first | rfl | (simp [*]; done)), H', ⟨Nat.le_refl _⟩, ⟨bx BK235.out⟩, ⟨lb⟩⟩
    case round =>
     clear H'
     try clear p2; try clear c3; try clear c4; try clear c4b0; try clear c6; try clear c6b0; try clear c9; try clear hcz5_0; try clear hcz5_1; try clear hcz7_0; try clear hcz7_1; try clear hcz8_0; try clear hcz8_1; try clear hfz5_0; try clear hfz5_1; try clear hfz7_0; try clear hfz7_1; try clear hfz8_0; try clear hfz8_1; try clear p2
     obtain ⟨x4_2, rfl, HA, HK2, BK235, HB⟩ := hrel
     cases gk with
     | zero => exact absurd HA.out (by simp [compassref03_Check.l0])
     | succ k2 =>
      have H := HA.out
      clear HA
      simp only [compassref03_Check.l0] at H
      by_cases c10 : x4_2 < (l0_1.length : Int)
      ·
       rw [if_pos c10] at H
       have c10b0 : decide (x4_2 < (l0_1.length : Int)) = true := decide_eq_true c10
       clear c10
       by_cases c11 : 0 ≤ x4_2
       rotate_left
       ·
        rw [if_neg c11] at H
        exact absurd H (by simp)
       rw [if_pos c11] at H
       have c11b0 : decide (0 ≤ x4_2) = true := decide_eq_true c11
       clear c11
       replace H := Option.bind_eq_some_iff.mp H
       obtain ⟨t237, A120, H⟩ := H
       replace H : (if t237 = 0 then (compassref03_Check.l0 k2 (wrap64 (x4_2 + 1)) a0_0 l0_1) else (some (t237, x4_2))) = some (r1, r2) := H
       have A12 := ak A120
       clear A120
       by_cases c13 : t237 = 0
       ·
        rw [if_pos c13] at H
        have c13b0 : (t237 == 0) = true := beq_iff_eq.mpr c13
        have c13b1 : (t237 != 0) = false := bne_eq_false_iff_eq.mpr c13
        clear c13
        have H' := ak H
        clear H
        have hcz14_0 : wr.cell? ⟨gb235, 0, none⟩ = some (.int .i64 a0_0) := (blk_cell BK235.out 0).trans rfl
        have hcz14_1 : wr.cell? ⟨gb235, 1, none⟩ = some (.slice A0_1 l0_1.length c0_1) := (blk_cell BK235.out 1).trans rfl
        have hfz14_0 := blk_frozen BK235.out 0
        have hfz14_1 := blk_frozen BK235.out 1
        try go_wp2
        have n0_ := ak (blk_drew BK235.out)
        have n1_ := ak (below_drew1 HB.out)
        clear BK235
        clear HB
        have BK235 := n0_
        have HB := n1_
        clear n0_ n1_
        have p236 : 0 ≤ (x4_2 : Int) := oda
        have q236 : x4_2 < (l0_1.length : Int) := oda
        obtain ⟨ad236, e236, hx236_0, hx236_1, hx236_2, hx236_3⟩ := at_T39 HR0_1.out x4_2 p236 q236
        have hw236_3 := hx236_3
        have hw236_2 := hx236_2
        have hw236_1 := hx236_1
        have hw236_0 := hx236_0
        cases e236
        (try replace hx236_0 := (HB.out.cell (World.block_lt_of_cell? w _ hx236_0)).trans hx236_0)
        (try replace hx236_1 := (HB.out.cell (World.block_lt_of_cell? w _ hx236_1)).trans hx236_1)
        (try replace hx236_2 := (HB.out.cell (World.block_lt_of_cell? w _ hx236_2)).trans hx236_2)
        (try replace hx236_3 := (HB.out.cell (World.block_lt_of_cell? w _ hx236_3)).trans hx236_3)
        replace p236 := eq_true p236
        replace q236 := eq_true q236
        refine start_ (n := 9) (S := fun w' => w'.cell? ⟨gb235, 0, none⟩ = some (.int .i64 a0_0) ∧ w'.cell? ⟨gb235, 1, none⟩ = some (.slice (some ad236) l0_1.length c0_1) ∧ w'.cell? (ad236.add ((x4_2).toNat * 4)) = some (.int .i64 ((rd_T39 l0_1 x4_2).f0)) ∧ w'.cell? ⟨(ad236.add ((x4_2).toNat * 4)).block, (ad236.add ((x4_2).toNat * 4)).off + 1, none⟩ = some (.int .i64 ((rd_T39 l0_1 x4_2).f1)) ∧ w'.cell? ⟨(ad236.add ((x4_2).toNat * 4)).block, (ad236.add ((x4_2).toNat * 4)).off + 2, none⟩ = some (.int .i64 ((rd_T39 l0_1 x4_2).f2)) ∧ w'.cell? ⟨(ad236.add ((x4_2).toNat * 4)).block, (ad236.add ((x4_2).toNat * 4)).off + 3, none⟩ = some (.int .i64 ((rd_T39 l0_1 x4_2).f3))) (ds := []) #[false, false, false, false, false, false, false, false, false] (by kernel_rfl) rfl rfl ⟨(blk_cell BK235.out 0).trans rfl, (blk_cell BK235.out 1).trans rfl, ((HB.out.cell (World.block_lt_of_cell? w _ hw236_0)).trans hw236_0), ((HB.out.cell (World.block_lt_of_cell? w _ hw236_1)).trans hw236_1), ((HB.out.cell (World.block_lt_of_cell? w _ hw236_2)).trans hw236_2), ((HB.out.cell (World.block_lt_of_cell? w _ hw236_3)).trans hw236_3)⟩ (fun hHeld => ?_); refine with_tabW compassref03_Check.tab6 compassref03_Check.bits6 (fun HT_ HW_ => ?_)
        generalize wr.drew = w15 at BK235 HB hx236_0 hx236_1 hx236_2 hx236_3 hHeld ⊢
        refine pure_ (i := 0) (N := some 27) (v := ?_) (a' := ?_) #[true, false, false, false, false, false, false, false, false] rfl rfl (any_of HT_.out (by kernel_rfl)) (fun _ _ _ h => h) (Or.inl ⟨by rfl, ?_⟩) ?_ ?_; rotate_left; intro w'; go_simp; with_reducible rfl; rotate_left; simp only [Act.put, List.setIfInBounds_toArray, List.set_cons_zero, List.set_cons_succ, i64_w, i32_w]; rfl
        refine pure_ (i := 2) (N := some 29) (v := ?_) (a' := ?_) #[true, false, true, false, false, false, false, false, false] rfl rfl (any_of HT_.out (by kernel_rfl)) (fun _ _ _ h => h) (Or.inl ⟨by rfl, ?_⟩) ?_ ?_; rotate_left; intro w'; go_simp; with_reducible rfl; rotate_left; simp only [Act.put, List.setIfInBounds_toArray, List.set_cons_zero, List.set_cons_succ, i64_w, i32_w]; rfl
        refine pure_ (i := 4) (N := some 31) (v := ?_) (a' := ?_) #[true, false, true, false, true, false, false, false, false] rfl rfl (any_of HT_.out (by kernel_rfl)) (fun _ _ _ h => h) (Or.inl ⟨by rfl, ?_⟩) ?_ ?_; rotate_left; intro w'; go_simp; with_reducible rfl; rotate_left; simp only [Act.put, List.setIfInBounds_toArray, List.set_cons_zero, List.set_cons_succ, i64_w, i32_w]; rfl
        refine take_ (i := 1) (N := some 28) (v := ?_) (a' := ?_) #[true, true, true, false, true, false, false, false, false] rfl rfl (take_ofW HT_.out HW_.out (by kernel_rfl)) (fun _ _ _ h => h) (Or.inl ⟨by rfl, ?_⟩) hHeld ?_ ?_; rotate_left; rintro w' ⟨s0, s1, s2, s3, s4, s5⟩; go_simp; with_reducible rfl; rotate_left; simp only [Act.put, List.setIfInBounds_toArray, List.set_cons_zero, List.set_cons_succ, i64_w, i32_w]; rfl
        refine take_ (i := 3) (N := some 30) (v := ?_) (a' := ?_) #[true, true, true, true, true, false, false, false, false] rfl rfl (take_ofW HT_.out HW_.out (by kernel_rfl)) (fun _ _ _ h => h) (Or.inl ⟨by rfl, ?_⟩) hHeld ?_ ?_; rotate_left; rintro w' ⟨s0, s1, s2, s3, s4, s5⟩; go_simp; with_reducible rfl; rotate_left; simp only [Act.put, List.setIfInBounds_toArray, List.set_cons_zero, List.set_cons_succ, i64_w, i32_w]; rfl
        refine pure_ (i := 5) (N := some 32) (v := ?_) (a' := ?_) #[true, true, true, true, true, true, false, false, false] rfl rfl (any_of HT_.out (by kernel_rfl)) (fun _ _ _ h => h) (Or.inl ⟨by rfl, ?_⟩) ?_ ?_; rotate_left; intro w'; go_simp; with_reducible rfl; rotate_left; simp only [Act.put, List.setIfInBounds_toArray, List.set_cons_zero, List.set_cons_succ, i64_w, i32_w]; rfl
        refine take_ (i := 6) (N := some 33) (v := ?_) (a' := ?_) #[true, true, true, true, true, true, true, false, false] rfl rfl (take_ofW HT_.out HW_.out (by kernel_rfl)) (fun _ _ _ h => h) (Or.inl ⟨by rfl, ?_⟩) hHeld ?_ ?_; rotate_left; rintro w' ⟨s0, s1, s2, s3, s4, s5⟩; go_simp; with_reducible rfl; rotate_left; simp only [Act.put, List.setIfInBounds_toArray, List.set_cons_zero, List.set_cons_succ, i64_w, i32_w]; rfl
        refine one_ (i := 7) (N := some 34) #[true, true, true, true, true, true, true, true, false] rfl rfl (one_of HT_.out (by kernel_rfl)) (by decide) (fun K hK => ?_)
        refine goes_ Try.func31 (by kernel_rfl) rfl #[.int .i64 a0_0, .agg #[.int .i64 ((rd_T39 l0_1 x4_2).f0), .int .i64 ((rd_T39 l0_1 x4_2).f1), .int .i64 ((rd_T39 l0_1 x4_2).f2), .int .i64 ((rd_T39 l0_1 x4_2).f3)]] (by rfl) rfl rfl (by (try simp only [List.map_toArray, List.map_cons, List.map_nil]); first | done | rfl | (simp only [List.length_drop, List.length_take]; rfl)) ?_
        with_reducible refine (compassref03_Bad.calls k2 a0_0 ((rd_T39 l0_1 x4_2).f0) ((rd_T39 l0_1 x4_2).f1) ((rd_T39 l0_1 x4_2).f2) ((rd_T39 l0_1 x4_2).f3) t237 _ A12.out).mono ?_
        rintro e w16 ⟨rfl, hb⟩
        refine ⟨_, rfl, ?_⟩
        have n0_ := ak (blk_below (bx BK235.out) hb)
        have n1_ := ak (below_step lb hb)
        clear BK235
        clear HB
        have BK235 := n0_
        have HB := n1_
        clear n0_ n1_
        (try clear hb)
        (try clear hb2)
        (try clear hk)
        (try clear hi)
        refine hK.out _ _ ⟨(blk_cell BK235.out 0).trans rfl, (blk_cell BK235.out 1).trans rfl, ((HB.out.cell (World.block_lt_of_cell? w _ hw236_0)).trans hw236_0), ((HB.out.cell (World.block_lt_of_cell? w _ hw236_1)).trans hw236_1), ((HB.out.cell (World.block_lt_of_cell? w _ hw236_2)).trans hw236_2), ((HB.out.cell (World.block_lt_of_cell? w _ hw236_3)).trans hw236_3)⟩ (fun hHeld => ?_)
        clear hK K
        refine norm_ (a' := ?_) ?_ ?_
        rotate_left
        ·
         show Act.put _ (some 34) _ = _
         simp only [Act.put, List.setIfInBounds_toArray, List.set_cons_zero, List.set_cons_succ, i64_w, i32_w]
         rfl
        refine pure_ (i := 8) (N := some 5) (v := ?_) (a' := ?_) #[true, true, true, true, true, true, true, true, true] rfl rfl (any_of HT_.out (by kernel_rfl)) (fun _ _ _ h => h) (Or.inl ⟨by rfl, ?_⟩) ?_ ?_; rotate_left; intro w'; go_simp; with_reducible rfl; rotate_left; simp only [Act.put, List.setIfInBounds_toArray, List.set_cons_zero, List.set_cons_succ, i64_w, i32_w]; rfl
        refine done_ (done_of HT_.out (by kernel_rfl)) ?_
        try go_wp2
        go_roundg k2
        case measure => have := HJ1.out; have := HK2.out; omega
        case rel => exact ⟨(wrap64 (x4_2 + 1)), (by first | rfl | (simp [*]; done)), H', ⟨by have := HJ1.out; have := HK2.out; omega⟩, ⟨bx BK235.out⟩, ⟨lb⟩⟩
       ·
        rw [if_neg c13] at H
        have c13b0 : (t237 == 0) = false := beq_eq_false_iff_ne.mpr c13
        have c13b1 : (t237 != 0) = true := bne_iff_ne.mpr c13
        simp only [Option.some.injEq, Prod.mk.injEq] at H
        obtain ⟨rfl, rfl⟩ := H
        have hcz17_0 : wr.cell? ⟨gb235, 0, none⟩ = some (.int .i64 a0_0) := (blk_cell BK235.out 0).trans rfl
        have hcz17_1 : wr.cell? ⟨gb235, 1, none⟩ = some (.slice A0_1 l0_1.length c0_1) := (blk_cell BK235.out 1).trans rfl
        have hfz17_0 := blk_frozen BK235.out 0
        have hfz17_1 := blk_frozen BK235.out 1
        try go_wp2
        have n0_ := ak (blk_drew BK235.out)
        have n1_ := ak (below_drew1 HB.out)
        clear BK235
        clear HB
        have BK235 := n0_
        have HB := n1_
        clear n0_ n1_
        have p236 : 0 ≤ (x4_2 : Int) := oda
        have q236 : x4_2 < (l0_1.length : Int) := oda
        obtain ⟨ad236, e236, hx236_0, hx236_1, hx236_2, hx236_3⟩ := at_T39 HR0_1.out x4_2 p236 q236
        have hw236_3 := hx236_3
        have hw236_2 := hx236_2
        have hw236_1 := hx236_1
        have hw236_0 := hx236_0
        cases e236
        (try replace hx236_0 := (HB.out.cell (World.block_lt_of_cell? w _ hx236_0)).trans hx236_0)
        (try replace hx236_1 := (HB.out.cell (World.block_lt_of_cell? w _ hx236_1)).trans hx236_1)
        (try replace hx236_2 := (HB.out.cell (World.block_lt_of_cell? w _ hx236_2)).trans hx236_2)
        (try replace hx236_3 := (HB.out.cell (World.block_lt_of_cell? w _ hx236_3)).trans hx236_3)
        replace p236 := eq_true p236
        replace q236 := eq_true q236
        refine start_ (n := 9) (S := fun w' => w'.cell? ⟨gb235, 0, none⟩ = some (.int .i64 a0_0) ∧ w'.cell? ⟨gb235, 1, none⟩ = some (.slice (some ad236) l0_1.length c0_1) ∧ w'.cell? (ad236.add ((x4_2).toNat * 4)) = some (.int .i64 ((rd_T39 l0_1 x4_2).f0)) ∧ w'.cell? ⟨(ad236.add ((x4_2).toNat * 4)).block, (ad236.add ((x4_2).toNat * 4)).off + 1, none⟩ = some (.int .i64 ((rd_T39 l0_1 x4_2).f1)) ∧ w'.cell? ⟨(ad236.add ((x4_2).toNat * 4)).block, (ad236.add ((x4_2).toNat * 4)).off + 2, none⟩ = some (.int .i64 ((rd_T39 l0_1 x4_2).f2)) ∧ w'.cell? ⟨(ad236.add ((x4_2).toNat * 4)).block, (ad236.add ((x4_2).toNat * 4)).off + 3, none⟩ = some (.int .i64 ((rd_T39 l0_1 x4_2).f3))) (ds := []) #[false, false, false, false, false, false, false, false, false] (by kernel_rfl) rfl rfl ⟨(blk_cell BK235.out 0).trans rfl, (blk_cell BK235.out 1).trans rfl, ((HB.out.cell (World.block_lt_of_cell? w _ hw236_0)).trans hw236_0), ((HB.out.cell (World.block_lt_of_cell? w _ hw236_1)).trans hw236_1), ((HB.out.cell (World.block_lt_of_cell? w _ hw236_2)).trans hw236_2), ((HB.out.cell (World.block_lt_of_cell? w _ hw236_3)).trans hw236_3)⟩ (fun hHeld => ?_); refine with_tabW compassref03_Check.tab6 compassref03_Check.bits6 (fun HT_ HW_ => ?_)
        generalize wr.drew = w18 at BK235 HB hx236_0 hx236_1 hx236_2 hx236_3 hHeld ⊢
        refine pure_ (i := 0) (N := some 27) (v := ?_) (a' := ?_) #[true, false, false, false, false, false, false, false, false] rfl rfl (any_of HT_.out (by kernel_rfl)) (fun _ _ _ h => h) (Or.inl ⟨by rfl, ?_⟩) ?_ ?_; rotate_left; intro w'; go_simp; with_reducible rfl; rotate_left; simp only [Act.put, List.setIfInBounds_toArray, List.set_cons_zero, List.set_cons_succ, i64_w, i32_w]; rfl
        refine pure_ (i := 2) (N := some 29) (v := ?_) (a' := ?_) #[true, false, true, false, false, false, false, false, false] rfl rfl (any_of HT_.out (by kernel_rfl)) (fun _ _ _ h => h) (Or.inl ⟨by rfl, ?_⟩) ?_ ?_; rotate_left; intro w'; go_simp; with_reducible rfl; rotate_left; simp only [Act.put, List.setIfInBounds_toArray, List.set_cons_zero, List.set_cons_succ, i64_w, i32_w]; rfl
        refine pure_ (i := 4) (N := some 31) (v := ?_) (a' := ?_) #[true, false, true, false, true, false, false, false, false] rfl rfl (any_of HT_.out (by kernel_rfl)) (fun _ _ _ h => h) (Or.inl ⟨by rfl, ?_⟩) ?_ ?_; rotate_left; intro w'; go_simp; with_reducible rfl; rotate_left; simp only [Act.put, List.setIfInBounds_toArray, List.set_cons_zero, List.set_cons_succ, i64_w, i32_w]; rfl
        refine take_ (i := 1) (N := some 28) (v := ?_) (a' := ?_) #[true, true, true, false, true, false, false, false, false] rfl rfl (take_ofW HT_.out HW_.out (by kernel_rfl)) (fun _ _ _ h => h) (Or.inl ⟨by rfl, ?_⟩) hHeld ?_ ?_; rotate_left; rintro w' ⟨s0, s1, s2, s3, s4, s5⟩; go_simp; with_reducible rfl; rotate_left; simp only [Act.put, List.setIfInBounds_toArray, List.set_cons_zero, List.set_cons_succ, i64_w, i32_w]; rfl
        refine take_ (i := 3) (N := some 30) (v := ?_) (a' := ?_) #[true, true, true, true, true, false, false, false, false] rfl rfl (take_ofW HT_.out HW_.out (by kernel_rfl)) (fun _ _ _ h => h) (Or.inl ⟨by rfl, ?_⟩) hHeld ?_ ?_; rotate_left; rintro w' ⟨s0, s1, s2, s3, s4, s5⟩; go_simp; with_reducible rfl; rotate_left; simp only [Act.put, List.setIfInBounds_toArray, List.set_cons_zero, List.set_cons_succ, i64_w, i32_w]; rfl
        refine pure_ (i := 5) (N := some 32) (v := ?_) (a' := ?_) #[true, true, true, true, true, true, false, false, false] rfl rfl (any_of HT_.out (by kernel_rfl)) (fun _ _ _ h => h) (Or.inl ⟨by rfl, ?_⟩) ?_ ?_; rotate_left; intro w'; go_simp; with_reducible rfl; rotate_left; simp only [Act.put, List.setIfInBounds_toArray, List.set_cons_zero, List.set_cons_succ, i64_w, i32_w]; rfl
        refine take_ (i := 6) (N := some 33) (v := ?_) (a' := ?_) #[true, true, true, true, true, true, true, false, false] rfl rfl (take_ofW HT_.out HW_.out (by kernel_rfl)) (fun _ _ _ h => h) (Or.inl ⟨by rfl, ?_⟩) hHeld ?_ ?_; rotate_left; rintro w' ⟨s0, s1, s2, s3, s4, s5⟩; go_simp; with_reducible rfl; rotate_left; simp only [Act.put, List.setIfInBounds_toArray, List.set_cons_zero, List.set_cons_succ, i64_w, i32_w]; rfl
        refine one_ (i := 7) (N := some 34) #[true, true, true, true, true, true, true, true, false] rfl rfl (one_of HT_.out (by kernel_rfl)) (by decide) (fun K hK => ?_)
        refine goes_ Try.func31 (by kernel_rfl) rfl #[.int .i64 a0_0, .agg #[.int .i64 ((rd_T39 l0_1 x4_2).f0), .int .i64 ((rd_T39 l0_1 x4_2).f1), .int .i64 ((rd_T39 l0_1 x4_2).f2), .int .i64 ((rd_T39 l0_1 x4_2).f3)]] (by rfl) rfl rfl (by (try simp only [List.map_toArray, List.map_cons, List.map_nil]); first | done | rfl | (simp only [List.length_drop, List.length_take]; rfl)) ?_
        with_reducible refine (compassref03_Bad.calls k2 a0_0 ((rd_T39 l0_1 x4_2).f0) ((rd_T39 l0_1 x4_2).f1) ((rd_T39 l0_1 x4_2).f2) ((rd_T39 l0_1 x4_2).f3) t237 _ A12.out).mono ?_
        rintro e w19 ⟨rfl, hb⟩
        refine ⟨_, rfl, ?_⟩
        have n0_ := ak (blk_below (bx BK235.out) hb)
        have n1_ := ak (below_step lb hb)
        clear BK235
        clear HB
        have BK235 := n0_
        have HB := n1_
        clear n0_ n1_
        (try clear hb)
        (try clear hb2)
        (try clear hk)
        (try clear hi)
        refine hK.out _ _ ⟨(blk_cell BK235.out 0).trans rfl, (blk_cell BK235.out 1).trans rfl, ((HB.out.cell (World.block_lt_of_cell? w _ hw236_0)).trans hw236_0), ((HB.out.cell (World.block_lt_of_cell? w _ hw236_1)).trans hw236_1), ((HB.out.cell (World.block_lt_of_cell? w _ hw236_2)).trans hw236_2), ((HB.out.cell (World.block_lt_of_cell? w _ hw236_3)).trans hw236_3)⟩ (fun hHeld => ?_)
        clear hK K
        refine norm_ (a' := ?_) ?_ ?_
        rotate_left
        ·
         show Act.put _ (some 34) _ = _
         simp only [Act.put, List.setIfInBounds_toArray, List.set_cons_zero, List.set_cons_succ, i64_w, i32_w]
         rfl
        refine pure_ (i := 8) (N := some 5) (v := ?_) (a' := ?_) #[true, true, true, true, true, true, true, true, true] rfl rfl (any_of HT_.out (by kernel_rfl)) (fun _ _ _ h => h) (Or.inl ⟨by rfl, ?_⟩) ?_ ?_; rotate_left; intro w'; go_simp; with_reducible rfl; rotate_left; simp only [Act.put, List.setIfInBounds_toArray, List.set_cons_zero, List.set_cons_succ, i64_w, i32_w]; rfl
        refine done_ (done_of HT_.out (by kernel_rfl)) ?_
        try go_wp2
        go_ret2
        exact ⟨by first | rfl | (simp [errW_none, errW_some] <;> rfl) | (simp [*, errW_none, errW_some] <;> rfl), lb⟩
      ·
       rw [if_neg c10] at H
       have c10b0 : decide (x4_2 < (l0_1.length : Int)) = false := decide_eq_false c10
       clear c10
       simp only [Option.some.injEq, Prod.mk.injEq] at H
       obtain ⟨rfl, rfl⟩ := H
       have hcz20_0 : wr.cell? ⟨gb235, 0, none⟩ = some (.int .i64 a0_0) := (blk_cell BK235.out 0).trans rfl
       have hcz20_1 : wr.cell? ⟨gb235, 1, none⟩ = some (.slice A0_1 l0_1.length c0_1) := (blk_cell BK235.out 1).trans rfl
       have hfz20_0 := blk_frozen BK235.out 0
       have hfz20_1 := blk_frozen BK235.out 1
       go_wp2
       go_ret2
       exact ⟨by first | rfl | (simp [errW_none, errW_some] <;> rfl) | (simp [*, errW_none, errW_some] <;> rfl), lb⟩

end Go.Proofs.Ytpmclhkednehhaa.Q
