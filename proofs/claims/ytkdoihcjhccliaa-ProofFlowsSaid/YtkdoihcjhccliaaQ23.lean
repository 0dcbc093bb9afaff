import Derived.Test.YtkdoihcjhccliaaQ0
import Derived.Test.YtkdoihcjhccliaaQ22
namespace Go.Proofs.Ytkdoihcjhccliaa.Q
open Go.RowKit Go.Proofs.YtkdoihcjhccliaaW.PrintWords Go.Proofs.YtkdoihcjhccliaaW.PrintLast Go.Proofs.YtkdoihcjhccliaaW.PrintMore
attribute [local go_sem] max2_int min2_int max_two min_two max_three min_three max_four min_four   -- for this text's walks alone
set_option linter.unusedVariables false
set_option linter.unusedSimpArgs false

/-! ### compassref03_Check: function 44 -/
mutual
def compassref03_Check.j0 : Nat → Bool → Int → List (S98) → Option (Int × Int)
  | 0, _, _, _ => none
  | k + 1, x19, x333000, x333001 => if x19 = true then (some (3, 0)) else (compassref03_Check.l0 k 0 x333000 x333001)
def compassref03_Check.l0 : Nat → Int → Int → List (S98) → Option (Int × Int)
  | 0, _, _, _ => none
  | k + 1, x4, x333000, x333001 => if x4 < (x333001.length : Int) then (if 0 ≤ x4 then ((compassref03_Bad.f k x333000 ((rd_T98 x333001 x4).f0) ((rd_T98 x333001 x4).f1) ((rd_T98 x333001 x4).f2) ((rd_T98 x333001 x4).f3)).bind fun t334 => (if t334 = 0 then (compassref03_Check.l0 k (wrap64 (x4 + 1)) x333000 x333001) else (some (t334, x4)))) else (none)) else (some (0, 0))
end
def compassref03_Check.f (k : Nat) (a0_0 : Int) (l0_1 : List (S98)) : Option (Int × Int) := if a0_0 < 0 then (compassref03_Check.j0 k true a0_0 l0_1) else (if a0_0 > 1024 then (compassref03_Check.j0 k true a0_0 l0_1) else (compassref03_Check.j0 k (decide ((l0_1.length : Int) > 4096)) a0_0 l0_1))
theorem compassref03_Check.mono_l : ∀ k, (∀ y0 y1 y2, LeO (compassref03_Check.j0 k y0 y1 y2) (compassref03_Check.j0 (k + 1) y0 y1 y2)) ∧ (∀ y0 y1 y2, LeO (compassref03_Check.l0 k y0 y1 y2) (compassref03_Check.l0 (k + 1) y0 y1 y2))
  | 0 => ⟨fun _ _ _ r h => by simp [compassref03_Check.j0] at h, fun _ _ _ r h => by simp [compassref03_Check.l0] at h⟩
  | k + 1 => by
    obtain ⟨ih0, ih1⟩ := compassref03_Check.mono_l k
    refine ⟨?_, ?_⟩
    · intro y0 y1 y2
      unfold compassref03_Check.j0
      repeat' first
      | (with_reducible exact ih0 _ _ _)
      | (with_reducible exact ih1 _ _ _)
      | (with_reducible exact compassref03_Bad.mono _ _ _ _ _ _)
      | (with_reducible exact LeO.refl _)
      | (with_reducible exact LeO.none _)
      | (with_reducible refine LeO.ite ?_ ?_)
      | (with_reducible refine LeO.bind ?_ (fun _ => ?_))
      | exact ih0 _ _ _
      | exact ih1 _ _ _
      | exact compassref03_Bad.mono _ _ _ _ _ _
      | exact LeO.none _
      | refine LeO.ite ?_ ?_
      | refine LeO.bind ?_ (fun _ => ?_)
    · intro y0 y1 y2
      unfold compassref03_Check.l0
      repeat' first
      | (with_reducible exact ih0 _ _ _)
      | (with_reducible exact ih1 _ _ _)
      | (with_reducible exact compassref03_Bad.mono _ _ _ _ _ _)
      | (with_reducible exact LeO.refl _)
      | (with_reducible exact LeO.none _)
      | (with_reducible refine LeO.ite ?_ ?_)
      | (with_reducible refine LeO.bind ?_ (fun _ => ?_))
      | exact ih0 _ _ _
      | exact ih1 _ _ _
      | exact compassref03_Bad.mono _ _ _ _ _ _
      | exact LeO.none _
      | refine LeO.ite ?_ ?_
      | refine LeO.bind ?_ (fun _ => ?_)
theorem compassref03_Check.mono : ∀ a0 a1 k, LeO (compassref03_Check.f k a0 a1) (compassref03_Check.f (k + 1) a0 a1) := by
  intro a0 a1 k
  obtain ⟨ih0, ih1⟩ := compassref03_Check.mono_l k
  unfold compassref03_Check.f
  repeat' first
      | (with_reducible exact ih0 _ _ _)
      | (with_reducible exact ih1 _ _ _)
      | (with_reducible exact compassref03_Bad.mono _ _ _ _ _ _)
      | (with_reducible exact LeO.refl _)
      | (with_reducible exact LeO.none _)
      | (with_reducible refine LeO.ite ?_ ?_)
      | (with_reducible refine LeO.bind ?_ (fun _ => ?_))
      | exact ih0 _ _ _
      | exact ih1 _ _ _
      | exact compassref03_Bad.mono _ _ _ _ _ _
      | exact LeO.none _
      | refine LeO.ite ?_ ?_
      | refine LeO.bind ?_ (fun _ => ?_)
def compassref03_Check.T6 : Bool × List (List Nat × List Nat) := (true, [([], []), ([0], [0]), ([], []), ([2], [2]), ([], []), ([3, 4], [3, 4]), ([5], [5]), ([1, 6], [1, 6]), ([7, 7, 0, 1, 2, 3, 4, 5, 6, 7], [7])])
def compassref03_Check.B6 : List Nat := [0, 1, 0, 4, 0, 28, 60, 127, 255]
theorem compassref03_Check.tab6 : rtab .any (opsOf Try.f44 6) = compassref03_Check.T6 := by kernel_rfl
theorem compassref03_Check.bits6 : waitsOk compassref03_Check.T6.2 compassref03_Check.B6 = true := by kernel_rfl
set_option maxHeartbeats 8000000 in
set_option maxRecDepth 100000 in
theorem compassref03_Check.calls (k : Nat) (a0_0 : Int) (A0_1 : Option Addr) (c0_1 : Nat) (l0_1 : List (S98)) (r1 : Int) (r2 : Int) (w : World) (hr0_1 : Kd.C k98 w A0_1 l0_1.length l0_1) (hc0_1 : l0_1.length ≤ c0_1) (h : compassref03_Check.f k a0_0 l0_1 = some (r1, r2)) :
    Calls Try.prog 44 #[.agg #[.int .i64 a0_0, .slice A0_1 l0_1.length c0_1]] w fun e w' => e = .returned (.tuple #[.int .i64 r1, .int .i64 r2]) ∧ Below w.heap.size w w' := by
 have hu24 := Try.underlying24; have hu98 := Try.underlying98; have HR0_1 := ak hr0_1; have HC0_1 := ak hc0_1; clear hr0_1 hc0_1; have HB := ak (Below.refl w.heap.size w); have H : (if a0_0 < 0 then (compassref03_Check.j0 k true a0_0 l0_1) else (if a0_0 > 1024 then (compassref03_Check.j0 k true a0_0 l0_1) else (compassref03_Check.j0 k (decide ((l0_1.length : Int) > 4096)) a0_0 l0_1))) = some (r1, r2) := h; clear h; have HC2 := ak H; clear H
 go_enter Try.func44, Try.ntmps44
 go_upto_region 1 with (first | ((with_reducible refine gate_dst (N := 1) rfl ?_); (try (refine gate_guard (by rfl) ?_; dsimp only)); refine box_event ?hg (N := 1) ?hd (cs := #[.int .i64 a0_0, .slice A0_1 l0_1.length c0_1]) (t := 24) ?hr ?_; (case hd => rfl); (case hg => rfl); (case hr => first | (go_simp; done) | (go_simp; rfl)); intro gb332 hg w3 hbox hb; have n_ := a4 (below_step lb hb) hbox (gw w hg) (gw w hg); clear HB; obtain ⟨HB, BK332, GW332, GE332⟩ := n_; clear hb hbox hg))
 (try simp only [Act.put, sA, sZ, sS])
 go_cut [19] (fun v19 wc => ∃ (kq : Nat) (x19_1 : Bool), v19 = .bool x19_1 ∧ Aside0 (compassref03_Check.j0 kq x19_1 a0_0 l0_1 = some (r1, r2)) ∧ Aside0 (kq ≤ k) ∧ Aside0 (wc.heap[gb332]? = some (.cells #[.int .i64 a0_0, (.slice A0_1 l0_1.length c0_1)] 24 (0, 0))) ∧ Aside0 (Below w.heap.size w wc))
 case first =>
  have H := HC2.out; clear HC2
  by_cases c4 : a0_0 < 0
  ·
   rw [if_pos c4] at H; have c4b0 := decide_eq_true c4; clear c4
   (first | rw [c4b0] | (simp only [i64_w, i32_w]; rw [c4b0]) | skip)
   have H' := ak H; clear H; have hcz5_0 := bc0 BK332; have hcz5_1 := bc1 BK332; have hfz5_0 := bf BK332 0; have hfz5_1 := bf BK332 1
   go_wp2
   go_meet
   case rel => exact ⟨_, (true), (by first | rfl | (simp [*]; done)), H', ⟨by first | omega | exact Nat.le_refl _⟩, ⟨bx BK332.out⟩, ⟨lb⟩⟩
  ·
   rw [if_neg c4] at H; have c4b0 : decide (a0_0 < 0) = false := decide_eq_false c4; clear c4
   (first | rw [c4b0] | (simp only [i64_w, i32_w]; rw [c4b0]) | skip)
   by_cases c6 : a0_0 > 1024
   ·
    rw [if_pos c6] at H; have c6b0 := decide_eq_true c6; clear c6; have H' := ak H; clear H; have hcz7_0 := bc0 BK332; have hcz7_1 := bc1 BK332; have hfz7_0 := bf BK332 0; have hfz7_1 := bf BK332 1
    go_wp2
    go_meet
    case rel => exact ⟨_, (true), (by first | rfl | (simp [*]; done)), H', ⟨by first | omega | exact Nat.le_refl _⟩, ⟨bx BK332.out⟩, ⟨lb⟩⟩
   ·
    rw [if_neg c6] at H; have c6b0 : decide (1024 < a0_0) = false := decide_eq_false c6; clear c6; have H' := ak H; clear H; have hcz8_0 := bc0 BK332; have hcz8_1 := bc1 BK332; have hfz8_0 := bf BK332 0; have hfz8_1 := bf BK332 1
    go_wp2
    go_meet
    case rel => exact ⟨_, (decide ((l0_1.length : Int) > 4096)), (by first | rfl | (simp [*]; done)), H', ⟨by first | omega | exact Nat.le_refl _⟩, ⟨bx BK332.out⟩, ⟨lb⟩⟩
 case rest =>
  clear HC2; obtain ⟨kq, x19_1, rfl, HA, HJ1, BK332, HB⟩ := hcut
  cases kq with
  | zero => exact absurd HA.out (by simp [compassref03_Check.j0])
  | succ kj1 =>
   have H := HA.out; clear HA
   simp only [compassref03_Check.j0] at H
   by_cases c9 : x19_1 = true
   ·
    subst c9
    have H1 : (some (3, 0)) = some (r1, r2) := by rw [if_pos rfl] at H; exact H
    clear H; have H := H1; clear H1
    simp only [Option.some.injEq, Prod.mk.injEq] at H
    obtain ⟨rfl, rfl⟩ := H
    go_wp2
    go_ret2
    exact ⟨by first | rfl | (simp [errW_none, errW_some] <;> rfl) | (simp [*, errW_none, errW_some] <;> rfl), lb⟩
   ·
    replace c9 := Bool.eq_false_iff.mpr c9; subst c9
    have H1 : (compassref03_Check.l0 kj1 0 a0_0 l0_1) = some (r1, r2) := by rw [if_neg (show ¬ (false = true) by decide)] at H; exact H
    clear H; have H := H1; clear H1; have H' := ak H; clear H
    go_wp2
    go_loopg [4] kj1 (fun kq v4 w' => ∃ (x4_2 : Int), v4 = .int .i64 x4_2 ∧ Aside0 (compassref03_Check.l0 kq x4_2 a0_0 l0_1 = some (r1, r2)) ∧ Aside0 (kq ≤ kj1) ∧ Aside0 (w'.heap[gb332]? = some (.cells #[.int .i64 a0_0, (.slice A0_1 l0_1.length c0_1)] 24 (0, 0))) ∧ Aside0 (Below w.heap.size w w'))
    case atStart => exact ⟨(0), (by first | rfl | (simp [*]; done)), H', ⟨Nat.le_refl _⟩, ⟨bx BK332.out⟩, ⟨lb⟩⟩
    case round =>
     clear H'; obtain ⟨x4_2, rfl, HA, HK2, BK332, HB⟩ := hrel
     cases gk with
     | zero => exact absurd HA.out (by simp [compassref03_Check.l0])
     | succ k2 =>
      have H := HA.out; clear HA
      simp only [compassref03_Check.l0] at H
      by_cases c10 : x4_2 < (l0_1.length : Int)
      ·
       rw [if_pos c10] at H; have c10b0 := decide_eq_true c10; clear c10; replace H := ifd H; obtain ⟨c11b0, H⟩ := H; replace H := Option.bind_eq_some_iff.mp H; obtain ⟨t334, A120, H⟩ := H; replace H : (if t334 = 0 then (compassref03_Check.l0 k2 (wrap64 (x4_2 + 1)) a0_0 l0_1) else (some (t334, x4_2))) = some (r1, r2) := H; have A12 := ak A120; clear A120
       by_cases c13 : t334 = 0
       ·
        rw [if_pos c13] at H; have c13b0 : (t334 == 0) = true := beq_iff_eq.mpr c13; have c13b1 : (t334 != 0) = false := bne_eq_false_iff_eq.mpr c13; clear c13; have H' := ak H; clear H; have hcz14_0 := bc0 BK332; have hcz14_1 := bc1 BK332; have hfz14_0 := bf BK332 0; have hfz14_1 := bf BK332 1
        try go_wp2
        have n_ := a2 (blk_drew BK332.out) (below_drew1 HB.out); clear BK332 HB; obtain ⟨BK332, HB⟩ := n_; have p333 : 0 ≤ (x4_2 : Int) := oda; have q333 : x4_2 < (l0_1.length : Int) := oda; obtain ⟨ad333, e333, hx333_0, hx333_1, hx333_2, hx333_3⟩ := at_T98 HR0_1.out x4_2 p333 q333; have hw333_3 := hx333_3; have hw333_2 := hx333_2; have hw333_1 := hx333_1; have hw333_0 := hx333_0; cases e333
        (try replace hx333_0 := hbc HB hx333_0)
        (try replace hx333_1 := hbc HB hx333_1)
        (try replace hx333_2 := hbc HB hx333_2)
        (try replace hx333_3 := hbc HB hx333_3)
        replace p333 := eq_true p333; replace q333 := eq_true q333
        refine start_ (n := 9) (S := fun w' => w'.cell? ⟨gb332, 0, none⟩ = some (.int .i64 a0_0) ∧ w'.cell? ⟨gb332, 1, none⟩ = some (.slice (some ad333) l0_1.length c0_1) ∧ w'.cell? (ad333.add ((x4_2).toNat * 4)) = some (.int .i64 ((rd_T98 l0_1 x4_2).f0)) ∧ w'.cell? ⟨(ad333.add ((x4_2).toNat * 4)).block, (ad333.add ((x4_2).toNat * 4)).off + 1, none⟩ = some (.int .i64 ((rd_T98 l0_1 x4_2).f1)) ∧ w'.cell? ⟨(ad333.add ((x4_2).toNat * 4)).block, (ad333.add ((x4_2).toNat * 4)).off + 2, none⟩ = some (.int .i64 ((rd_T98 l0_1 x4_2).f2)) ∧ w'.cell? ⟨(ad333.add ((x4_2).toNat * 4)).block, (ad333.add ((x4_2).toNat * 4)).off + 3, none⟩ = some (.int .i64 ((rd_T98 l0_1 x4_2).f3))) (ds := []) #[F, F, F, F, F, F, F, F, F] (by kernel_rfl) rfl rfl ⟨(blk_cell BK332.out 0).trans rfl, (blk_cell BK332.out 1).trans rfl, ((HB.out.cell (World.block_lt_of_cell? w _ hw333_0)).trans hw333_0), ((HB.out.cell (World.block_lt_of_cell? w _ hw333_1)).trans hw333_1), ((HB.out.cell (World.block_lt_of_cell? w _ hw333_2)).trans hw333_2), ((HB.out.cell (World.block_lt_of_cell? w _ hw333_3)).trans hw333_3)⟩ (fun hHeld => ?_); refine with_tabW compassref03_Check.tab6 compassref03_Check.bits6 (fun HT_ HW_ => ?_)
        generalize wr.drew = w15 at BK332 HB hx333_0 hx333_1 hx333_2 hx333_3 hHeld ⊢
        refine pure_ (i := 0) (N := some 27) (v := ?_) (a' := ?_) #[T, F, F, F, F, F, F, F, F] rfl rfl (any_of HT_.out (by kernel_rfl)) (fun _ _ _ h => h) (Or.inl ⟨by rfl, ?_⟩) ?_ ?_; rotate_left; intro w'; go_simp; with_reducible rfl; rotate_left; simp only [Act.put, sA, sZ, sS, i64_w, i32_w]; rfl
        refine pure_ (i := 2) (N := some 29) (v := ?_) (a' := ?_) #[T, F, T, F, F, F, F, F, F] rfl rfl (any_of HT_.out (by kernel_rfl)) (fun _ _ _ h => h) (Or.inl ⟨by rfl, ?_⟩) ?_ ?_; rotate_left; intro w'; go_simp; with_reducible rfl; rotate_left; simp only [Act.put, sA, sZ, sS, i64_w, i32_w]; rfl
        refine pure_ (i := 4) (N := some 31) (v := ?_) (a' := ?_) #[T, F, T, F, T, F, F, F, F] rfl rfl (any_of HT_.out (by kernel_rfl)) (fun _ _ _ h => h) (Or.inl ⟨by rfl, ?_⟩) ?_ ?_; rotate_left; intro w'; go_simp; with_reducible rfl; rotate_left; simp only [Act.put, sA, sZ, sS, i64_w, i32_w]; rfl
        refine take_ (i := 1) (N := some 28) (v := ?_) (a' := ?_) #[T, T, T, F, T, F, F, F, F] rfl rfl (take_ofW HT_.out HW_.out (by kernel_rfl)) (fun _ _ _ h => h) (Or.inl ⟨by rfl, ?_⟩) hHeld ?_ ?_; rotate_left; rintro w' ⟨s0, s1, s2, s3, s4, s5⟩; go_simp; with_reducible rfl; rotate_left; simp only [Act.put, sA, sZ, sS, i64_w, i32_w]; rfl
        refine take_ (i := 3) (N := some 30) (v := ?_) (a' := ?_) #[T, T, T, T, T, F, F, F, F] rfl rfl (take_ofW HT_.out HW_.out (by kernel_rfl)) (fun _ _ _ h => h) (Or.inl ⟨by rfl, ?_⟩) hHeld ?_ ?_; rotate_left; rintro w' ⟨s0, s1, s2, s3, s4, s5⟩; go_simp; with_reducible rfl; rotate_left; simp only [Act.put, sA, sZ, sS, i64_w, i32_w]; rfl
        refine pure_ (i := 5) (N := some 32) (v := ?_) (a' := ?_) #[T, T, T, T, T, T, F, F, F] rfl rfl (any_of HT_.out (by kernel_rfl)) (fun _ _ _ h => h) (Or.inl ⟨by rfl, ?_⟩) ?_ ?_; rotate_left; intro w'; go_simp; with_reducible rfl; rotate_left; simp only [Act.put, sA, sZ, sS, i64_w, i32_w]; rfl
        refine take_ (i := 6) (N := some 33) (v := ?_) (a' := ?_) #[T, T, T, T, T, T, T, F, F] rfl rfl (take_ofW HT_.out HW_.out (by kernel_rfl)) (fun _ _ _ h => h) (Or.inl ⟨by rfl, ?_⟩) hHeld ?_ ?_; rotate_left; rintro w' ⟨s0, s1, s2, s3, s4, s5⟩; go_simp; with_reducible rfl; rotate_left; simp only [Act.put, sA, sZ, sS, i64_w, i32_w]; rfl
        refine one_ (i := 7) (N := some 34) #[T, T, T, T, T, T, T, T, F] rfl rfl (one_of HT_.out (by kernel_rfl)) (by decide) (fun K hK => ?_)
        refine goes_ Try.func83 (by kernel_rfl) rfl #[.int .i64 a0_0, .agg #[.int .i64 ((rd_T98 l0_1 x4_2).f0), .int .i64 ((rd_T98 l0_1 x4_2).f1), .int .i64 ((rd_T98 l0_1 x4_2).f2), .int .i64 ((rd_T98 l0_1 x4_2).f3)]] (by rfl) rfl rfl (by (try simp only [List.map_toArray, List.map_cons, List.map_nil]); first | done | rfl | (simp only [List.length_drop, List.length_take]; rfl)) ?_
        with_reducible refine (compassref03_Bad.calls k2 a0_0 ((rd_T98 l0_1 x4_2).f0) ((rd_T98 l0_1 x4_2).f1) ((rd_T98 l0_1 x4_2).f2) ((rd_T98 l0_1 x4_2).f3) t334 _ A12.out).mono ?_
        rintro e w16 ⟨rfl, hb⟩
        refine ⟨_, rfl, ?_⟩
        have n_ := a2 (blk_below (bx BK332.out) hb) (below_step lb hb); clear BK332 HB; obtain ⟨BK332, HB⟩ := n_
        (try clear hb)
        (try clear hb2)
        (try clear hk)
        (try clear hi)
        refine hK.out _ _ ⟨(blk_cell BK332.out 0).trans rfl, (blk_cell BK332.out 1).trans rfl, ((HB.out.cell (World.block_lt_of_cell? w _ hw333_0)).trans hw333_0), ((HB.out.cell (World.block_lt_of_cell? w _ hw333_1)).trans hw333_1), ((HB.out.cell (World.block_lt_of_cell? w _ hw333_2)).trans hw333_2), ((HB.out.cell (World.block_lt_of_cell? w _ hw333_3)).trans hw333_3)⟩ (fun hHeld => ?_)
        clear hK K
        refine norm_ (a' := ?_) ?_ ?_
        rotate_left
        ·
         show Act.put _ (some 34) _ = _
         simp only [Act.put, sA, sZ, sS, i64_w, i32_w]
         rfl
        refine pure_ (i := 8) (N := some 5) (v := ?_) (a' := ?_) #[T, T, T, T, T, T, T, T, T] rfl rfl (any_of HT_.out (by kernel_rfl)) (fun _ _ _ h => h) (Or.inl ⟨by rfl, ?_⟩) ?_ ?_; rotate_left; intro w'; go_simp; with_reducible rfl; rotate_left; simp only [Act.put, sA, sZ, sS, i64_w, i32_w]; rfl
        refine done_ (done_of HT_.out (by kernel_rfl)) ?_
        try go_wp2
        go_roundg k2
        case measure => have := HJ1.out; have := HK2.out; omega
        case rel => exact ⟨(wrap64 (x4_2 + 1)), (by first | rfl | (simp [*]; done)), H', ⟨by have := HJ1.out; have := HK2.out; omega⟩, ⟨bx BK332.out⟩, ⟨lb⟩⟩
       ·
        rw [if_neg c13] at H; have c13b0 : (t334 == 0) = false := beq_eq_false_iff_ne.mpr c13; have c13b1 : (t334 != 0) = true := bne_iff_ne.mpr c13
        simp only [Option.some.injEq, Prod.mk.injEq] at H
        obtain ⟨rfl, rfl⟩ := H; have hcz17_0 := bc0 BK332; have hcz17_1 := bc1 BK332; have hfz17_0 := bf BK332 0; have hfz17_1 := bf BK332 1
        try go_wp2
        have n_ := a2 (blk_drew BK332.out) (below_drew1 HB.out); clear BK332 HB; obtain ⟨BK332, HB⟩ := n_; have p333 : 0 ≤ (x4_2 : Int) := oda; have q333 : x4_2 < (l0_1.length : Int) := oda; obtain ⟨ad333, e333, hx333_0, hx333_1, hx333_2, hx333_3⟩ := at_T98 HR0_1.out x4_2 p333 q333; have hw333_3 := hx333_3; have hw333_2 := hx333_2; have hw333_1 := hx333_1; have hw333_0 := hx333_0; cases e333
        (try replace hx333_0 := hbc HB hx333_0)
        (try replace hx333_1 := hbc HB hx333_1)
        (try replace hx333_2 := hbc HB hx333_2)
        (try replace hx333_3 := hbc HB hx333_3)
        replace p333 := eq_true p333; replace q333 := eq_true q333
        refine start_ (n := 9) (S := fun w' => w'.cell? ⟨gb332, 0, none⟩ = some (.int .i64 a0_0) ∧ w'.cell? ⟨gb332, 1, none⟩ = some (.slice (some ad333) l0_1.length c0_1) ∧ w'.cell? (ad333.add ((x4_2).toNat * 4)) = some (.int .i64 ((rd_T98 l0_1 x4_2).f0)) ∧ w'.cell? ⟨(ad333.add ((x4_2).toNat * 4)).block, (ad333.add ((x4_2).toNat * 4)).off + 1, none⟩ = some (.int .i64 ((rd_T98 l0_1 x4_2).f1)) ∧ w'.cell? ⟨(ad333.add ((x4_2).toNat * 4)).block, (ad333.add ((x4_2).toNat * 4)).off + 2, none⟩ = some (.int .i64 ((rd_T98 l0_1 x4_2).f2)) ∧ w'.cell? ⟨(ad333.add ((x4_2).toNat * 4)).block, (ad333.add ((x4_2).toNat * 4)).off + 3, none⟩ = some (.int .i64 ((rd_T98 l0_1 x4_2).f3))) (ds := []) #[F, F, F, F, F, F, F, F, F] (by kernel_rfl) rfl rfl ⟨(blk_cell BK332.out 0).trans rfl, (blk_cell BK332.out 1).trans rfl, ((HB.out.cell (World.block_lt_of_cell? w _ hw333_0)).trans hw333_0), ((HB.out.cell (World.block_lt_of_cell? w _ hw333_1)).trans hw333_1), ((HB.out.cell (World.block_lt_of_cell? w _ hw333_2)).trans hw333_2), ((HB.out.cell (World.block_lt_of_cell? w _ hw333_3)).trans hw333_3)⟩ (fun hHeld => ?_); refine with_tabW compassref03_Check.tab6 compassref03_Check.bits6 (fun HT_ HW_ => ?_)
        generalize wr.drew = w18 at BK332 HB hx333_0 hx333_1 hx333_2 hx333_3 hHeld ⊢
        refine pure_ (i := 0) (N := some 27) (v := ?_) (a' := ?_) #[T, F, F, F, F, F, F, F, F] rfl rfl (any_of HT_.out (by kernel_rfl)) (fun _ _ _ h => h) (Or.inl ⟨by rfl, ?_⟩) ?_ ?_; rotate_left; intro w'; go_simp; with_reducible rfl; rotate_left; simp only [Act.put, sA, sZ, sS, i64_w, i32_w]; rfl
        refine pure_ (i := 2) (N := some 29) (v := ?_) (a' := ?_) #[T, F, T, F, F, F, F, F, F] rfl rfl (any_of HT_.out (by kernel_rfl)) (fun _ _ _ h => h) (Or.inl ⟨by rfl, ?_⟩) ?_ ?_; rotate_left; intro w'; go_simp; with_reducible rfl; rotate_left; simp only [Act.put, sA, sZ, sS, i64_w, i32_w]; rfl
        refine pure_ (i := 4) (N := some 31) (v := ?_) (a' := ?_) #[T, F, T, F, T, F, F, F, F] rfl rfl (any_of HT_.out (by kernel_rfl)) (fun _ _ _ h => h) (Or.inl ⟨by rfl, ?_⟩) ?_ ?_; rotate_left; intro w'; go_simp; with_reducible rfl; rotate_left; simp only [Act.put, sA, sZ, sS, i64_w, i32_w]; rfl
        refine take_ (i := 1) (N := some 28) (v := ?_) (a' := ?_) #[T, T, T, F, T, F, F, F, F] rfl rfl (take_ofW HT_.out HW_.out (by kernel_rfl)) (fun _ _ _ h => h) (Or.inl ⟨by rfl, ?_⟩) hHeld ?_ ?_; rotate_left; rintro w' ⟨s0, s1, s2, s3, s4, s5⟩; go_simp; with_reducible rfl; rotate_left; simp only [Act.put, sA, sZ, sS, i64_w, i32_w]; rfl
        refine take_ (i := 3) (N := some 30) (v := ?_) (a' := ?_) #[T, T, T, T, T, F, F, F, F] rfl rfl (take_ofW HT_.out HW_.out (by kernel_rfl)) (fun _ _ _ h => h) (Or.inl ⟨by rfl, ?_⟩) hHeld ?_ ?_; rotate_left; rintro w' ⟨s0, s1, s2, s3, s4, s5⟩; go_simp; with_reducible rfl; rotate_left; simp only [Act.put, sA, sZ, sS, i64_w, i32_w]; rfl
        refine pure_ (i := 5) (N := some 32) (v := ?_) (a' := ?_) #[T, T, T, T, T, T, F, F, F] rfl rfl (any_of HT_.out (by kernel_rfl)) (fun _ _ _ h => h) (Or.inl ⟨by rfl, ?_⟩) ?_ ?_; rotate_left; intro w'; go_simp; with_reducible rfl; rotate_left; simp only [Act.put, sA, sZ, sS, i64_w, i32_w]; rfl
        refine take_ (i := 6) (N := some 33) (v := ?_) (a' := ?_) #[T, T, T, T, T, T, T, F, F] rfl rfl (take_ofW HT_.out HW_.out (by kernel_rfl)) (fun _ _ _ h => h) (Or.inl ⟨by rfl, ?_⟩) hHeld ?_ ?_; rotate_left; rintro w' ⟨s0, s1, s2, s3, s4, s5⟩; go_simp; with_reducible rfl; rotate_left; simp only [Act.put, sA, sZ, sS, i64_w, i32_w]; rfl
        refine one_ (i := 7) (N := some 34) #[T, T, T, T, T, T, T, T, F] rfl rfl (one_of HT_.out (by kernel_rfl)) (by decide) (fun K hK => ?_)
        refine goes_ Try.func83 (by kernel_rfl) rfl #[.int .i64 a0_0, .agg #[.int .i64 ((rd_T98 l0_1 x4_2).f0), .int .i64 ((rd_T98 l0_1 x4_2).f1), .int .i64 ((rd_T98 l0_1 x4_2).f2), .int .i64 ((rd_T98 l0_1 x4_2).f3)]] (by rfl) rfl rfl (by (try simp only [List.map_toArray, List.map_cons, List.map_nil]); first | done | rfl | (simp only [List.length_drop, List.length_take]; rfl)) ?_
        with_reducible refine (compassref03_Bad.calls k2 a0_0 ((rd_T98 l0_1 x4_2).f0) ((rd_T98 l0_1 x4_2).f1) ((rd_T98 l0_1 x4_2).f2) ((rd_T98 l0_1 x4_2).f3) t334 _ A12.out).mono ?_
        rintro e w19 ⟨rfl, hb⟩
        refine ⟨_, rfl, ?_⟩
        have n_ := a2 (blk_below (bx BK332.out) hb) (below_step lb hb); clear BK332 HB; obtain ⟨BK332, HB⟩ := n_
        (try clear hb)
        (try clear hb2)
        (try clear hk)
        (try clear hi)
        refine hK.out _ _ ⟨(blk_cell BK332.out 0).trans rfl, (blk_cell BK332.out 1).trans rfl, ((HB.out.cell (World.block_lt_of_cell? w _ hw333_0)).trans hw333_0), ((HB.out.cell (World.block_lt_of_cell? w _ hw333_1)).trans hw333_1), ((HB.out.cell (World.block_lt_of_cell? w _ hw333_2)).trans hw333_2), ((HB.out.cell (World.block_lt_of_cell? w _ hw333_3)).trans hw333_3)⟩ (fun hHeld => ?_)
        clear hK K
        refine norm_ (a' := ?_) ?_ ?_
        rotate_left
        ·
         show Act.put _ (some 34) _ = _
         simp only [Act.put, sA, sZ, sS, i64_w, i32_w]
         rfl
        refine pure_ (i := 8) (N := some 5) (v := ?_) (a' := ?_) #[T, T, T, T, T, T, T, T, T] rfl rfl (any_of HT_.out (by kernel_rfl)) (fun _ _ _ h => h) (Or.inl ⟨by rfl, ?_⟩) ?_ ?_; rotate_left; intro w'; go_simp; with_reducible rfl; rotate_left; simp only [Act.put, sA, sZ, sS, i64_w, i32_w]; rfl
        refine done_ (done_of HT_.out (by kernel_rfl)) ?_
        try go_wp2
        go_ret2
        exact ⟨by first | rfl | (simp [errW_none, errW_some] <;> rfl) | (simp [*, errW_none, errW_some] <;> rfl), lb⟩
      ·
       rw [if_neg c10] at H; have c10b0 : decide (x4_2 < (l0_1.length : Int)) = false := decide_eq_false c10; clear c10
       simp only [Option.some.injEq, Prod.mk.injEq] at H
       obtain ⟨rfl, rfl⟩ := H; have hcz20_0 := bc0 BK332; have hcz20_1 := bc1 BK332; have hfz20_0 := bf BK332 0; have hfz20_1 := bf BK332 1
       go_wp2
       go_ret2
       exact ⟨by first | rfl | (simp [errW_none, errW_some] <;> rfl) | (simp [*, errW_none, errW_some] <;> rfl), lb⟩

end Go.Proofs.Ytkdoihcjhccliaa.Q
