import Derived.Test.YtkdoihcjhccliaaQ0
import Derived.Test.YtkdoihcjhccliaaQ20
namespace Go.Proofs.Ytkdoihcjhccliaa.Q
open Go.RowKit Go.Proofs.YtkdoihcjhccliaaW.PrintWords Go.Proofs.YtkdoihcjhccliaaW.PrintLast Go.Proofs.YtkdoihcjhccliaaW.PrintMore
attribute [local go_sem] max2_int min2_int max_two min_two max_three min_three max_four min_four   -- for this text's walks alone
set_option linter.unusedVariables false
set_option linter.unusedSimpArgs false

/-! ### compassref11_Fits: function 30 -/
mutual
def compassref11_Fits.l0 : Nat → List Int → List Int → Int → Int → List (S98) → Option (Bool)
  | 0, _, _, _, _, _ => none
  | k + 1, x1, x2, x7, x319000, x319001 => if x7 < (x1.length : Int) then (if 0 ≤ x7 then (if (rd x1 x7) < 0 then (some false) else (if x7 < (x319001.length : Int) then (if (rd x1 x7) > ((rd_T98 x319001 x7).f2) then (some false) else (compassref11_Fits.l0 k x1 x2 (wrap64 (x7 + 1)) x319000 x319001)) else (none))) else (none)) else (compassref11_Fits.l1 k x1 x2 0 x319000 x319001)
def compassref11_Fits.l1 : Nat → List Int → List Int → Int → Int → List (S98) → Option (Bool)
  | 0, _, _, _, _, _ => none
  | k + 1, x1, x2, x8, x319000, x319001 => if x8 < x319000 then ((compassref11_Out.f k x319000 x319001 x1 x8).bind fun t322 => (if 0 ≤ x8 then (if x8 < (x2.length : Int) then (if t322 = (rd x2 x8) then (compassref11_Fits.l1 k x1 x2 (wrap64 (x8 + 1)) x319000 x319001) else (some false)) else (none)) else (none))) else (some true)
end
def compassref11_Fits.f (k : Nat) (a0_0 : Int) (l0_1 : List (S98)) (l1 : List Int) (l2 : List Int) : Option (Bool) := if (l1.length : Int) = (l0_1.length : Int) then (compassref11_Fits.l0 k l1 l2 0 a0_0 l0_1) else (some false)
theorem compassref11_Fits.mono_l : ∀ k, (∀ y0 y1 y2 y3 y4, LeO (compassref11_Fits.l0 k y0 y1 y2 y3 y4) (compassref11_Fits.l0 (k + 1) y0 y1 y2 y3 y4)) ∧ (∀ y0 y1 y2 y3 y4, LeO (compassref11_Fits.l1 k y0 y1 y2 y3 y4) (compassref11_Fits.l1 (k + 1) y0 y1 y2 y3 y4))
  | 0 => ⟨fun _ _ _ _ _ r h => by simp [compassref11_Fits.l0] at h, fun _ _ _ _ _ r h => by simp [compassref11_Fits.l1] at h⟩
  | k + 1 => by
    obtain ⟨ih0, ih1⟩ := compassref11_Fits.mono_l k
    refine ⟨?_, ?_⟩
    · intro y0 y1 y2 y3 y4
      unfold compassref11_Fits.l0
      repeat' first
      | (with_reducible exact ih0 _ _ _ _ _)
      | (with_reducible exact ih1 _ _ _ _ _)
      | (with_reducible exact compassref11_Out.mono _ _ _ _ _)
      | (with_reducible exact LeO.refl _)
      | (with_reducible exact LeO.none _)
      | (with_reducible refine LeO.ite ?_ ?_)
      | (with_reducible refine LeO.bind ?_ (fun _ => ?_))
      | exact ih0 _ _ _ _ _
      | exact ih1 _ _ _ _ _
      | exact compassref11_Out.mono _ _ _ _ _
      | exact LeO.none _
      | refine LeO.ite ?_ ?_
      | refine LeO.bind ?_ (fun _ => ?_)
    · intro y0 y1 y2 y3 y4
      unfold compassref11_Fits.l1
      repeat' first
      | (with_reducible exact ih0 _ _ _ _ _)
      | (with_reducible exact ih1 _ _ _ _ _)
      | (with_reducible exact compassref11_Out.mono _ _ _ _ _)
      | (with_reducible exact LeO.refl _)
      | (with_reducible exact LeO.none _)
      | (with_reducible refine LeO.ite ?_ ?_)
      | (with_reducible refine LeO.bind ?_ (fun _ => ?_))
      | exact ih0 _ _ _ _ _
      | exact ih1 _ _ _ _ _
      | exact compassref11_Out.mono _ _ _ _ _
      | exact LeO.none _
      | refine LeO.ite ?_ ?_
      | refine LeO.bind ?_ (fun _ => ?_)
theorem compassref11_Fits.mono : ∀ a0 a1 a2 a3 k, LeO (compassref11_Fits.f k a0 a1 a2 a3) (compassref11_Fits.f (k + 1) a0 a1 a2 a3) := by
  intro a0 a1 a2 a3 k
  obtain ⟨ih0, ih1⟩ := compassref11_Fits.mono_l k
  unfold compassref11_Fits.f
  repeat' first
      | (with_reducible exact ih0 _ _ _ _ _)
      | (with_reducible exact ih1 _ _ _ _ _)
      | (with_reducible exact compassref11_Out.mono _ _ _ _ _)
      | (with_reducible exact LeO.refl _)
      | (with_reducible exact LeO.none _)
      | (with_reducible refine LeO.ite ?_ ?_)
      | (with_reducible refine LeO.bind ?_ (fun _ => ?_))
      | exact ih0 _ _ _ _ _
      | exact ih1 _ _ _ _ _
      | exact compassref11_Out.mono _ _ _ _ _
      | exact LeO.none _
      | refine LeO.ite ?_ ?_
      | refine LeO.bind ?_ (fun _ => ?_)
def compassref11_Fits.T6 : Bool × List (List Nat × List Nat) := (true, [([], []), ([], []), ([0, 1], [0, 1]), ([2], [2]), ([3], [3]), ([4], [4]), ([5], [5]), ([5], [5]), ([6, 7, 5], [5, 6, 7]), ([8, 5], [5, 8]), ([5], [5]), ([10, 5], [5, 10]), ([5], [5]), ([11, 12, 5], [5, 11, 12]), ([13, 5], [5, 13]), ([14, 5], [5, 14]), ([9, 15, 5], [5, 9, 15]), ([5, 16], [5, 16])])
def compassref11_Fits.B6 : List Nat := [0, 0, 3, 7, 15, 31, 63, 63, 255, 511, 63, 1087, 63, 7231, 15423, 31807, 65535, 131071]
theorem compassref11_Fits.tab6 : rtab .any (opsOf Try.f30 6) = compassref11_Fits.T6 := by kernel_rfl
theorem compassref11_Fits.bits6 : waitsOk compassref11_Fits.T6.2 compassref11_Fits.B6 = true := by kernel_rfl
def compassref11_Fits.T11 : Bool × List (List Nat × List Nat) := (true, [([], []), ([], []), ([], []), ([0, 1, 2], [0, 1, 2]), ([], []), ([], []), ([4, 5], [4, 5]), ([6], [6]), ([3, 7], [3, 7])])
def compassref11_Fits.B11 : List Nat := [0, 0, 0, 7, 0, 0, 48, 112, 255]
theorem compassref11_Fits.tab11 : rtab .any (opsOf Try.f30 11) = compassref11_Fits.T11 := by kernel_rfl
theorem compassref11_Fits.bits11 : waitsOk compassref11_Fits.T11.2 compassref11_Fits.B11 = true := by kernel_rfl
set_option maxHeartbeats 8000000 in
set_option maxRecDepth 100000 in
theorem compassref11_Fits.calls (k : Nat) (a0_0 : Int) (A0_1 : Option Addr) (c0_1 : Nat) (l0_1 : List (S98)) (A1 : Option Addr) (c1 : Nat) (l1 : List Int) (A2 : Option Addr) (c2 : Nat) (l2 : List Int) (r : Bool) (w : World) (hr0_1 : Kd.C k98 w A0_1 l0_1.length l0_1) (hc0_1 : l0_1.length ≤ c0_1) (hr1 : Kd.C (Kd.int .i64) w A1 l1.length l1) (hc1 : l1.length ≤ c1) (hr2 : Kd.C (Kd.int .i64) w A2 l2.length l2) (hc2 : l2.length ≤ c2) (h : compassref11_Fits.f k a0_0 l0_1 l1 l2 = some r) :
    Calls Try.prog 30 #[.agg #[.int .i64 a0_0, .slice A0_1 l0_1.length c0_1], .slice A1 l1.length c1, .slice A2 l2.length c2] w fun e w' => e = .returned (.bool r) ∧ Below w.heap.size w w' := by
 have hu24 := Try.underlying24; have HR0_1 := ak hr0_1; have HC0_1 := ak hc0_1; clear hr0_1 hc0_1; have HR1 := ak hr1; have HC1 := ak hc1; clear hr1 hc1; have HR2 := ak hr2; have HC2 := ak hc2; clear hr2 hc2; have HB := ak (Below.refl w.heap.size w); have H : (if (l1.length : Int) = (l0_1.length : Int) then (compassref11_Fits.l0 k l1 l2 0 a0_0 l0_1) else (some false)) = some r := h; clear h
 by_cases c4 : (l1.length : Int) = (l0_1.length : Int)
 ·
  rw [if_pos c4] at H; have c4b0 : ((l1.length : Int) == (l0_1.length : Int)) = true := beq_iff_eq.mpr c4; have c4b1 : ((l1.length : Int) != (l0_1.length : Int)) = false := bne_eq_false_iff_eq.mpr c4; have c4b2 : (l1.length == l0_1.length) = true := by first | simpa using c4 | (simp at c4 ⊢; omega)
  clear c4; have H' := ak H; clear H
  go_enter Try.func30, Try.ntmps30
  go_wp2_with (first | ((with_reducible refine gate_dst (N := 3) rfl ?_); refine box_event ?hg (N := 3) ?hd (cs := #[.int .i64 a0_0, .slice A0_1 l0_1.length c0_1]) (t := 24) ?hr ?_; (case hd => rfl); (case hg => rfl); (case hr => first | (go_simp; done) | (go_simp; rfl)); intro gb318 hg w5 hbox hb; have n_ := a4 (below_step lb hb) hbox (gw w hg) (gw w hg); clear HB; obtain ⟨HB, BK318, GW318, GE318⟩ := n_; clear hb hbox hg; have hcz6_0 := bc0 BK318; have hcz6_1 := bc1 BK318; have hfz6_0 := bf BK318 0; have hfz6_1 := bf BK318 1))
  go_loopg [7] k (fun kq v7 w' => ∃ (x7_1 : Int), v7 = .int .i64 x7_1 ∧ Aside0 (compassref11_Fits.l0 kq l1 l2 x7_1 a0_0 l0_1 = some r) ∧ Aside0 (kq ≤ k) ∧ Aside0 (w'.heap[gb318]? = some (.cells #[.int .i64 a0_0, (.slice A0_1 l0_1.length c0_1)] 24 (0, 0))) ∧ Aside0 (Below w.heap.size w w'))
  case atStart => exact ⟨(0), (by first | rfl | (simp [*]; done)), H', ⟨Nat.le_refl _⟩, ⟨bx BK318.out⟩, ⟨lb⟩⟩
  case round =>
   clear H'; obtain ⟨x7_1, rfl, HA, HK1, BK318, HB⟩ := hrel
   cases gk with
   | zero => exact absurd HA.out (by simp [compassref11_Fits.l0])
   | succ k1 =>
    have H := HA.out; clear HA
    simp only [compassref11_Fits.l0] at H
    by_cases c7 : x7_1 < (l1.length : Int)
    ·
     rw [if_pos c7] at H; have c7b0 := decide_eq_true c7; clear c7; replace H := ifd H; obtain ⟨c8b0, H⟩ := H
     by_cases c9 : (rd l1 x7_1) < 0
     ·
      rw [if_pos c9] at H; have c9b0 := decide_eq_true c9; clear c9; obtain rfl := Option.some.inj H
      try go_wp2
      have n_ := a2 (blk_drew BK318.out) (below_drew1 HB.out); clear BK318 HB; obtain ⟨BK318, HB⟩ := n_; have p319 : 0 ≤ (x7_1 : Int) := oda; have q319 : x7_1 < (l1.length : Int) := oda; obtain ⟨ad319, e319, hx319_0⟩ := Kd.at_int HR1.out x7_1 p319 q319; have hw319_0 := hx319_0; cases e319
      (try replace hx319_0 := hbc HB hx319_0)
      replace p319 := eq_true p319; replace q319 := eq_true q319
      refine start_ (n := 18) (S := fun w' => w'.cell? (ad319.add (x7_1).toNat) = some (.int .i64 (rd l1 x7_1))) (ds := []) #[F, F, F, F, F, F, F, F, F, F, F, F, F, F, F, F, F, F] (by kernel_rfl) rfl rfl (((HB.out.cell (World.block_lt_of_cell? w _ hw319_0)).trans hw319_0)) (fun hHeld => ?_); refine with_tabW compassref11_Fits.tab6 compassref11_Fits.bits6 (fun HT_ HW_ => ?_)
      generalize wr.drew = w10 at BK318 HB hx319_0 hHeld ⊢
      refine pure_ (i := 0) (N := some 21) (v := ?_) (a' := ?_) #[T, F, F, F, F, F, F, F, F, F, F, F, F, F, F, F, F, F] rfl rfl (any_of HT_.out (by kernel_rfl)) (fun _ _ _ h => h) (Or.inl ⟨by rfl, ?_⟩) ?_ ?_; rotate_left; intro w'; go_simp; with_reducible rfl; rotate_left; simp only [Act.put, sA, sZ, sS, i64_w, i32_w]; rfl
      refine pure_ (i := 1) (N := some 22) (v := ?_) (a' := ?_) #[T, T, F, F, F, F, F, F, F, F, F, F, F, F, F, F, F, F] rfl rfl (any_of HT_.out (by kernel_rfl)) (fun _ _ _ h => h) (Or.inl ⟨by rfl, ?_⟩) ?_ ?_; rotate_left; intro w'; go_simp; with_reducible rfl; rotate_left; simp only [Act.put, sA, sZ, sS, i64_w, i32_w]; rfl
      refine pure_ (i := 2) (N := some 23) (v := ?_) (a' := ?_) #[T, T, T, F, F, F, F, F, F, F, F, F, F, F, F, F, F, F] rfl rfl (any_of HT_.out (by kernel_rfl)) (fun _ _ _ h => h) (Or.inl ⟨by rfl, ?_⟩) ?_ ?_; rotate_left; intro w'; go_simp; with_reducible rfl; rotate_left; simp only [Act.put, sA, sZ, sS, i64_w, i32_w]; rfl
      refine take_ (i := 3) (N := some 24) (v := ?_) (a' := ?_) #[T, T, T, T, F, F, F, F, F, F, F, F, F, F, F, F, F, F] rfl rfl (take_ofW HT_.out HW_.out (by kernel_rfl)) (fun _ _ _ h => h) (Or.inl ⟨by rfl, ?_⟩) hHeld ?_ ?_
      rotate_left
      ·
       intro w' s0
       go_simp
       with_reducible rfl
      rotate_left
      ·
       simp only [Act.put, sA, sZ, sS, i64_w, i32_w]
       rfl
      refine pure_ (i := 4) (N := some 25) (v := ?_) (a' := ?_) #[T, T, T, T, T, F, F, F, F, F, F, F, F, F, F, F, F, F] rfl rfl (any_of HT_.out (by kernel_rfl)) (fun _ _ _ h => h) (Or.inl ⟨by rfl, ?_⟩) ?_ ?_; rotate_left; intro w'; go_simp; with_reducible rfl; rotate_left; simp only [Act.put, sA, sZ, sS, i64_w, i32_w]; rfl
      refine pure_ (i := 5) (N := some 26) (v := ?_) (a' := ?_) #[T, T, T, T, T, T, F, F, F, F, F, F, F, F, F, F, F, F] rfl rfl (any_of HT_.out (by kernel_rfl)) (fun _ _ _ h => h) (Or.inl ⟨by rfl, ?_⟩) ?_ ?_; rotate_left; intro w'; go_simp; with_reducible rfl; rotate_left; simp only [Act.put, sA, sZ, sS, i64_w, i32_w]; rfl
      refine pure_ (i := 6) (N := some 27) (v := undef) (a' := ?_) #[T, T, T, T, T, T, T, F, F, F, F, F, F, F, F, F, F, F] rfl rfl (any_of HT_.out (by kernel_rfl)) (fun _ _ _ h => h) (Or.inr ⟨by rfl, rfl⟩) ?_ ?_
      rotate_left
      ·
       simp only [Act.put, sA, sZ, sS, i64_w, i32_w]
       rfl
      refine pure_ (i := 7) (N := some 28) (v := undef) (a' := ?_) #[T, T, T, T, T, T, T, T, F, F, F, F, F, F, F, F, F, F] rfl rfl (any_of HT_.out (by kernel_rfl)) (fun _ _ _ h => h) (Or.inr ⟨by rfl, rfl⟩) ?_ ?_
      rotate_left
      ·
       simp only [Act.put, sA, sZ, sS, i64_w, i32_w]
       rfl
      refine pure_ (i := 8) (N := some 29) (v := undef) (a' := ?_) #[T, T, T, T, T, T, T, T, T, F, F, F, F, F, F, F, F, F] rfl rfl (any_of HT_.out (by kernel_rfl)) (fun _ _ _ h => h) (Or.inr ⟨by rfl, rfl⟩) ?_ ?_
      rotate_left
      ·
       simp only [Act.put, sA, sZ, sS, i64_w, i32_w]
       rfl
      refine pure_ (i := 9) (N := some 30) (v := undef) (a' := ?_) #[T, T, T, T, T, T, T, T, T, T, F, F, F, F, F, F, F, F] rfl rfl (any_of HT_.out (by kernel_rfl)) (fun _ _ _ h => h) (Or.inr ⟨by rfl, rfl⟩) ?_ ?_
      rotate_left
      ·
       simp only [Act.put, sA, sZ, sS, i64_w, i32_w]
       rfl
      refine pure_ (i := 10) (N := some 31) (v := undef) (a' := ?_) #[T, T, T, T, T, T, T, T, T, T, T, F, F, F, F, F, F, F] rfl rfl (any_of HT_.out (by kernel_rfl)) (fun _ _ _ h => h) (Or.inr ⟨by rfl, rfl⟩) ?_ ?_
      rotate_left
      ·
       simp only [Act.put, sA, sZ, sS, i64_w, i32_w]
       rfl
      refine pure_ (i := 11) (N := some 32) (v := undef) (a' := ?_) #[T, T, T, T, T, T, T, T, T, T, T, T, F, F, F, F, F, F] rfl rfl (any_of HT_.out (by kernel_rfl)) (fun _ _ _ h => h) (Or.inr ⟨by rfl, rfl⟩) ?_ ?_
      rotate_left
      ·
       simp only [Act.put, sA, sZ, sS, i64_w, i32_w]
       rfl
      refine pure_ (i := 12) (N := some 33) (v := undef) (a' := ?_) #[T, T, T, T, T, T, T, T, T, T, T, T, T, F, F, F, F, F] rfl rfl (any_of HT_.out (by kernel_rfl)) (fun _ _ _ h => h) (Or.inr ⟨by rfl, rfl⟩) ?_ ?_
      rotate_left
      ·
       simp only [Act.put, sA, sZ, sS, i64_w, i32_w]
       rfl
      refine pure_ (i := 13) (N := some 34) (v := undef) (a' := ?_) #[T, T, T, T, T, T, T, T, T, T, T, T, T, T, F, F, F, F] rfl rfl (any_of HT_.out (by kernel_rfl)) (fun _ _ _ h => h) (Or.inr ⟨by rfl, rfl⟩) ?_ ?_
      rotate_left
      ·
       simp only [Act.put, sA, sZ, sS, i64_w, i32_w]
       rfl
      refine pure_ (i := 14) (N := some 35) (v := undef) (a' := ?_) #[T, T, T, T, T, T, T, T, T, T, T, T, T, T, T, F, F, F] rfl rfl (any_of HT_.out (by kernel_rfl)) (fun _ _ _ h => h) (Or.inr ⟨by rfl, rfl⟩) ?_ ?_
      rotate_left
      ·
       simp only [Act.put, sA, sZ, sS, i64_w, i32_w]
       rfl
      refine pure_ (i := 15) (N := some 36) (v := undef) (a' := ?_) #[T, T, T, T, T, T, T, T, T, T, T, T, T, T, T, T, F, F] rfl rfl (any_of HT_.out (by kernel_rfl)) (fun _ _ _ h => h) (Or.inr ⟨by rfl, rfl⟩) ?_ ?_
      rotate_left
      ·
       simp only [Act.put, sA, sZ, sS, i64_w, i32_w]
       rfl
      refine pure_ (i := 16) (N := some 37) (v := undef) (a' := ?_) #[T, T, T, T, T, T, T, T, T, T, T, T, T, T, T, T, T, F] rfl rfl (any_of HT_.out (by kernel_rfl)) (fun _ _ _ h => h) (Or.inr ⟨by rfl, rfl⟩) ?_ ?_
      rotate_left
      ·
       simp only [Act.put, sA, sZ, sS, i64_w, i32_w]
       rfl
      refine pure_ (i := 17) (N := some 38) (v := ?_) (a' := ?_) #[T, T, T, T, T, T, T, T, T, T, T, T, T, T, T, T, T, T] rfl rfl (any_of HT_.out (by kernel_rfl)) (fun _ _ _ h => h) (Or.inl ⟨by rfl, ?_⟩) ?_ ?_; rotate_left; intro w'; go_simp; with_reducible rfl; rotate_left; simp only [Act.put, sA, sZ, sS, i64_w, i32_w]; rfl
      refine done_ (done_of HT_.out (by kernel_rfl)) ?_
      try go_wp2
      go_ret
      exact ⟨by first | rfl | (simp [errW_none, errW_some] <;> rfl) | (simp [*, errW_none, errW_some] <;> rfl), lb⟩
     ·
      rw [if_neg c9] at H; have c9b0 : decide ((rd l1 x7_1) < 0) = false := decide_eq_false c9; clear c9; replace H := ifd H; obtain ⟨c11b0, H⟩ := H
      by_cases c12 : (rd l1 x7_1) > ((rd_T98 l0_1 x7_1).f2)
      ·
       rw [if_pos c12] at H; have c12b0 := decide_eq_true c12; clear c12; obtain rfl := Option.some.inj H
       try go_wp2
       have n_ := a2 (blk_drew BK318.out) (below_drew1 HB.out); clear BK318 HB; obtain ⟨BK318, HB⟩ := n_; have p319 : 0 ≤ (x7_1 : Int) := oda; have q319 : x7_1 < (l1.length : Int) := oda; obtain ⟨ad319, e319, hx319_0⟩ := Kd.at_int HR1.out x7_1 p319 q319; have hw319_0 := hx319_0; cases e319
       (try replace hx319_0 := hbc HB hx319_0)
       replace p319 := eq_true p319; replace q319 := eq_true q319; have p320 : 0 ≤ (x7_1 : Int) := oda; have q320 : x7_1 < (l1.length : Int) := oda; obtain ⟨ad320, e320, hx320_0⟩ := Kd.at_int HR1.out x7_1 p320 q320; have hw320_0 := hx320_0
       obtain rfl : ad319 = ad320 := (by injection e320)
       (try replace hx320_0 := hbc HB hx320_0)
       replace p320 := eq_true p320; replace q320 := eq_true q320; have p321 : 0 ≤ (x7_1 : Int) := oda; have q321 : x7_1 < (l0_1.length : Int) := oda; obtain ⟨ad321, e321, hx321_0, hx321_1, hx321_2, hx321_3⟩ := at_T98 HR0_1.out x7_1 p321 q321; have hw321_3 := hx321_3; have hw321_2 := hx321_2; have hw321_1 := hx321_1; have hw321_0 := hx321_0; cases e321
       (try replace hx321_0 := hbc HB hx321_0)
       (try replace hx321_1 := hbc HB hx321_1)
       (try replace hx321_2 := hbc HB hx321_2)
       (try replace hx321_3 := hbc HB hx321_3)
       replace p321 := eq_true p321; replace q321 := eq_true q321
       refine start_ (n := 18) (S := fun w' => w'.cell? ⟨gb318, 0, none⟩ = some (.int .i64 a0_0) ∧ w'.cell? ⟨gb318, 1, none⟩ = some (.slice (some ad321) l0_1.length c0_1) ∧ w'.cell? (ad319.add (x7_1).toNat) = some (.int .i64 (rd l1 x7_1)) ∧ w'.cell? (ad319.add (x7_1).toNat) = some (.int .i64 (rd l1 x7_1)) ∧ w'.cell? (ad321.add ((x7_1).toNat * 4)) = some (.int .i64 ((rd_T98 l0_1 x7_1).f0)) ∧ w'.cell? ⟨(ad321.add ((x7_1).toNat * 4)).block, (ad321.add ((x7_1).toNat * 4)).off + 1, none⟩ = some (.int .i64 ((rd_T98 l0_1 x7_1).f1)) ∧ w'.cell? ⟨(ad321.add ((x7_1).toNat * 4)).block, (ad321.add ((x7_1).toNat * 4)).off + 2, none⟩ = some (.int .i64 ((rd_T98 l0_1 x7_1).f2)) ∧ w'.cell? ⟨(ad321.add ((x7_1).toNat * 4)).block, (ad321.add ((x7_1).toNat * 4)).off + 3, none⟩ = some (.int .i64 ((rd_T98 l0_1 x7_1).f3))) (ds := []) #[F, F, F, F, F, F, F, F, F, F, F, F, F, F, F, F, F, F] (by kernel_rfl) rfl rfl ⟨(blk_cell BK318.out 0).trans rfl, (blk_cell BK318.out 1).trans rfl, ((HB.out.cell (World.block_lt_of_cell? w _ hw319_0)).trans hw319_0), ((HB.out.cell (World.block_lt_of_cell? w _ hw320_0)).trans hw320_0), ((HB.out.cell (World.block_lt_of_cell? w _ hw321_0)).trans hw321_0), ((HB.out.cell (World.block_lt_of_cell? w _ hw321_1)).trans hw321_1), ((HB.out.cell (World.block_lt_of_cell? w _ hw321_2)).trans hw321_2), ((HB.out.cell (World.block_lt_of_cell? w _ hw321_3)).trans hw321_3)⟩ (fun hHeld => ?_); refine with_tabW compassref11_Fits.tab6 compassref11_Fits.bits6 (fun HT_ HW_ => ?_)
       generalize wr.drew = w13 at BK318 HB hx319_0 hx320_0 hx321_0 hx321_1 hx321_2 hx321_3 hHeld ⊢
       refine pure_ (i := 0) (N := some 21) (v := ?_) (a' := ?_) #[T, F, F, F, F, F, F, F, F, F, F, F, F, F, F, F, F, F] rfl rfl (any_of HT_.out (by kernel_rfl)) (fun _ _ _ h => h) (Or.inl ⟨by rfl, ?_⟩) ?_ ?_; rotate_left; intro w'; go_simp; with_reducible rfl; rotate_left; simp only [Act.put, sA, sZ, sS, i64_w, i32_w]; rfl
       refine pure_ (i := 1) (N := some 22) (v := ?_) (a' := ?_) #[T, T, F, F, F, F, F, F, F, F, F, F, F, F, F, F, F, F] rfl rfl (any_of HT_.out (by kernel_rfl)) (fun _ _ _ h => h) (Or.inl ⟨by rfl, ?_⟩) ?_ ?_; rotate_left; intro w'; go_simp; with_reducible rfl; rotate_left; simp only [Act.put, sA, sZ, sS, i64_w, i32_w]; rfl
       refine pure_ (i := 2) (N := some 23) (v := ?_) (a' := ?_) #[T, T, T, F, F, F, F, F, F, F, F, F, F, F, F, F, F, F] rfl rfl (any_of HT_.out (by kernel_rfl)) (fun _ _ _ h => h) (Or.inl ⟨by rfl, ?_⟩) ?_ ?_; rotate_left; intro w'; go_simp; with_reducible rfl; rotate_left; simp only [Act.put, sA, sZ, sS, i64_w, i32_w]; rfl
       refine take_ (i := 3) (N := some 24) (v := ?_) (a' := ?_) #[T, T, T, T, F, F, F, F, F, F, F, F, F, F, F, F, F, F] rfl rfl (take_ofW HT_.out HW_.out (by kernel_rfl)) (fun _ _ _ h => h) (Or.inl ⟨by rfl, ?_⟩) hHeld ?_ ?_; rotate_left; rintro w' ⟨s0, s1, s2, s3, s4, s5, s6, s7⟩; go_simp; with_reducible rfl; rotate_left; simp only [Act.put, sA, sZ, sS, i64_w, i32_w]; rfl
       refine pure_ (i := 4) (N := some 25) (v := ?_) (a' := ?_) #[T, T, T, T, T, F, F, F, F, F, F, F, F, F, F, F, F, F] rfl rfl (any_of HT_.out (by kernel_rfl)) (fun _ _ _ h => h) (Or.inl ⟨by rfl, ?_⟩) ?_ ?_; rotate_left; intro w'; go_simp; with_reducible rfl; rotate_left; simp only [Act.put, sA, sZ, sS, i64_w, i32_w]; rfl
       refine pure_ (i := 5) (N := some 26) (v := ?_) (a' := ?_) #[T, T, T, T, T, T, F, F, F, F, F, F, F, F, F, F, F, F] rfl rfl (any_of HT_.out (by kernel_rfl)) (fun _ _ _ h => h) (Or.inl ⟨by rfl, ?_⟩) ?_ ?_; rotate_left; intro w'; go_simp; with_reducible rfl; rotate_left; simp only [Act.put, sA, sZ, sS, i64_w, i32_w]; rfl
       refine pure_ (i := 6) (N := some 27) (v := ?_) (a' := ?_) #[T, T, T, T, T, T, T, F, F, F, F, F, F, F, F, F, F, F] rfl rfl (any_of HT_.out (by kernel_rfl)) (fun _ _ _ h => h) (Or.inl ⟨by rfl, ?_⟩) ?_ ?_; rotate_left; intro w'; go_simp; with_reducible rfl; rotate_left; simp only [Act.put, sA, sZ, sS, i64_w, i32_w]; rfl
       refine pure_ (i := 7) (N := some 28) (v := ?_) (a' := ?_) #[T, T, T, T, T, T, T, T, F, F, F, F, F, F, F, F, F, F] rfl rfl (any_of HT_.out (by kernel_rfl)) (fun _ _ _ h => h) (Or.inl ⟨by rfl, ?_⟩) ?_ ?_; rotate_left; intro w'; go_simp; with_reducible rfl; rotate_left; simp only [Act.put, sA, sZ, sS, i64_w, i32_w]; rfl
       refine pure_ (i := 8) (N := some 29) (v := ?_) (a' := ?_) #[T, T, T, T, T, T, T, T, T, F, F, F, F, F, F, F, F, F] rfl rfl (any_of HT_.out (by kernel_rfl)) (fun _ _ _ h => h) (Or.inl ⟨by rfl, ?_⟩) ?_ ?_; rotate_left; intro w'; go_simp; with_reducible rfl; rotate_left; simp only [Act.put, sA, sZ, sS, i64_w, i32_w]; rfl
       refine pure_ (i := 10) (N := some 31) (v := ?_) (a' := ?_) #[T, T, T, T, T, T, T, T, T, F, T, F, F, F, F, F, F, F] rfl rfl (any_of HT_.out (by kernel_rfl)) (fun _ _ _ h => h) (Or.inl ⟨by rfl, ?_⟩) ?_ ?_; rotate_left; intro w'; go_simp; with_reducible rfl; rotate_left; simp only [Act.put, sA, sZ, sS, i64_w, i32_w]; rfl
       refine pure_ (i := 12) (N := some 33) (v := ?_) (a' := ?_) #[T, T, T, T, T, T, T, T, T, F, T, F, T, F, F, F, F, F] rfl rfl (any_of HT_.out (by kernel_rfl)) (fun _ _ _ h => h) (Or.inl ⟨by rfl, ?_⟩) ?_ ?_; rotate_left; intro w'; go_simp; with_reducible rfl; rotate_left; simp only [Act.put, sA, sZ, sS, i64_w, i32_w]; rfl
       refine take_ (i := 9) (N := some 30) (v := ?_) (a' := ?_) #[T, T, T, T, T, T, T, T, T, T, T, F, T, F, F, F, F, F] rfl rfl (take_ofW HT_.out HW_.out (by kernel_rfl)) (fun _ _ _ h => h) (Or.inl ⟨by rfl, ?_⟩) hHeld ?_ ?_; rotate_left; rintro w' ⟨s0, s1, s2, s3, s4, s5, s6, s7⟩; go_simp; with_reducible rfl; rotate_left; simp only [Act.put, sA, sZ, sS, i64_w, i32_w]; rfl
       refine take_ (i := 11) (N := some 32) (v := ?_) (a' := ?_) #[T, T, T, T, T, T, T, T, T, T, T, T, T, F, F, F, F, F] rfl rfl (take_ofW HT_.out HW_.out (by kernel_rfl)) (fun _ _ _ h => h) (Or.inl ⟨by rfl, ?_⟩) hHeld ?_ ?_; rotate_left; rintro w' ⟨s0, s1, s2, s3, s4, s5, s6, s7⟩; go_simp; with_reducible rfl; rotate_left; simp only [Act.put, sA, sZ, sS, i64_w, i32_w]; rfl
       refine pure_ (i := 13) (N := some 34) (v := ?_) (a' := ?_) #[T, T, T, T, T, T, T, T, T, T, T, T, T, T, F, F, F, F] rfl rfl (any_of HT_.out (by kernel_rfl)) (fun _ _ _ h => h) (Or.inl ⟨by rfl, ?_⟩) ?_ ?_; rotate_left; intro w'; go_simp; with_reducible rfl; rotate_left; simp only [Act.put, sA, sZ, sS, i64_w, i32_w]; rfl
       refine pure_ (i := 14) (N := some 35) (v := ?_) (a' := ?_) #[T, T, T, T, T, T, T, T, T, T, T, T, T, T, T, F, F, F] rfl rfl (any_of HT_.out (by kernel_rfl)) (fun _ _ _ h => h) (Or.inl ⟨by rfl, ?_⟩) ?_ ?_; rotate_left; intro w'; go_simp; with_reducible rfl; rotate_left; simp only [Act.put, sA, sZ, sS, i64_w, i32_w]; rfl
       refine take_ (i := 15) (N := some 36) (v := ?_) (a' := ?_) #[T, T, T, T, T, T, T, T, T, T, T, T, T, T, T, T, F, F] rfl rfl (take_ofW HT_.out HW_.out (by kernel_rfl)) (fun _ _ _ h => h) (Or.inl ⟨by rfl, ?_⟩) hHeld ?_ ?_; rotate_left; rintro w' ⟨s0, s1, s2, s3, s4, s5, s6, s7⟩; go_simp; with_reducible rfl; rotate_left; simp only [Act.put, sA, sZ, sS, i64_w, i32_w]; rfl
       refine pure_ (i := 16) (N := some 37) (v := ?_) (a' := ?_) #[T, T, T, T, T, T, T, T, T, T, T, T, T, T, T, T, T, F] rfl rfl (any_of HT_.out (by kernel_rfl)) (fun _ _ _ h => h) (Or.inl ⟨by rfl, ?_⟩) ?_ ?_; rotate_left; intro w'; go_simp; with_reducible rfl; rotate_left; simp only [Act.put, sA, sZ, sS, i64_w, i32_w]; rfl
       refine pure_ (i := 17) (N := some 38) (v := ?_) (a' := ?_) #[T, T, T, T, T, T, T, T, T, T, T, T, T, T, T, T, T, T] rfl rfl (any_of HT_.out (by kernel_rfl)) (fun _ _ _ h => h) (Or.inl ⟨by rfl, ?_⟩) ?_ ?_; rotate_left; intro w'; go_simp; with_reducible rfl; rotate_left; simp only [Act.put, sA, sZ, sS, i64_w, i32_w]; rfl
       refine done_ (done_of HT_.out (by kernel_rfl)) ?_
       try go_wp2
       go_ret
       exact ⟨by first | rfl | (simp [errW_none, errW_some] <;> rfl) | (simp [*, errW_none, errW_some] <;> rfl), lb⟩
      ·
       rw [if_neg c12] at H; have c12b0 : decide (((rd_T98 l0_1 x7_1).f2) < (rd l1 x7_1)) = false := decide_eq_false c12; clear c12; have H' := ak H; clear H
       try go_wp2
       have n_ := a2 (blk_drew BK318.out) (below_drew1 HB.out); clear BK318 HB; obtain ⟨BK318, HB⟩ := n_; have p319 : 0 ≤ (x7_1 : Int) := oda; have q319 : x7_1 < (l1.length : Int) := oda; obtain ⟨ad319, e319, hx319_0⟩ := Kd.at_int HR1.out x7_1 p319 q319; have hw319_0 := hx319_0; cases e319
       (try replace hx319_0 := hbc HB hx319_0)
       replace p319 := eq_true p319; replace q319 := eq_true q319; have p320 : 0 ≤ (x7_1 : Int) := oda; have q320 : x7_1 < (l1.length : Int) := oda; obtain ⟨ad320, e320, hx320_0⟩ := Kd.at_int HR1.out x7_1 p320 q320; have hw320_0 := hx320_0
       obtain rfl : ad319 = ad320 := (by injection e320)
       (try replace hx320_0 := hbc HB hx320_0)
       replace p320 := eq_true p320; replace q320 := eq_true q320; have p321 : 0 ≤ (x7_1 : Int) := oda; have q321 : x7_1 < (l0_1.length : Int) := oda; obtain ⟨ad321, e321, hx321_0, hx321_1, hx321_2, hx321_3⟩ := at_T98 HR0_1.out x7_1 p321 q321; have hw321_3 := hx321_3; have hw321_2 := hx321_2; have hw321_1 := hx321_1; have hw321_0 := hx321_0; cases e321
       (try replace hx321_0 := hbc HB hx321_0)
       (try replace hx321_1 := hbc HB hx321_1)
       (try replace hx321_2 := hbc HB hx321_2)
       (try replace hx321_3 := hbc HB hx321_3)
       replace p321 := eq_true p321; replace q321 := eq_true q321
       refine start_ (n := 18) (S := fun w' => w'.cell? ⟨gb318, 0, none⟩ = some (.int .i64 a0_0) ∧ w'.cell? ⟨gb318, 1, none⟩ = some (.slice (some ad321) l0_1.length c0_1) ∧ w'.cell? (ad319.add (x7_1).toNat) = some (.int .i64 (rd l1 x7_1)) ∧ w'.cell? (ad319.add (x7_1).toNat) = some (.int .i64 (rd l1 x7_1)) ∧ w'.cell? (ad321.add ((x7_1).toNat * 4)) = some (.int .i64 ((rd_T98 l0_1 x7_1).f0)) ∧ w'.cell? ⟨(ad321.add ((x7_1).toNat * 4)).block, (ad321.add ((x7_1).toNat * 4)).off + 1, none⟩ = some (.int .i64 ((rd_T98 l0_1 x7_1).f1)) ∧ w'.cell? ⟨(ad321.add ((x7_1).toNat * 4)).block, (ad321.add ((x7_1).toNat * 4)).off + 2, none⟩ = some (.int .i64 ((rd_T98 l0_1 x7_1).f2)) ∧ w'.cell? ⟨(ad321.add ((x7_1).toNat * 4)).block, (ad321.add ((x7_1).toNat * 4)).off + 3, none⟩ = some (.int .i64 ((rd_T98 l0_1 x7_1).f3))) (ds := []) #[F, F, F, F, F, F, F, F, F, F, F, F, F, F, F, F, F, F] (by kernel_rfl) rfl rfl ⟨(blk_cell BK318.out 0).trans rfl, (blk_cell BK318.out 1).trans rfl, ((HB.out.cell (World.block_lt_of_cell? w _ hw319_0)).trans hw319_0), ((HB.out.cell (World.block_lt_of_cell? w _ hw320_0)).trans hw320_0), ((HB.out.cell (World.block_lt_of_cell? w _ hw321_0)).trans hw321_0), ((HB.out.cell (World.block_lt_of_cell? w _ hw321_1)).trans hw321_1), ((HB.out.cell (World.block_lt_of_cell? w _ hw321_2)).trans hw321_2), ((HB.out.cell (World.block_lt_of_cell? w _ hw321_3)).trans hw321_3)⟩ (fun hHeld => ?_); refine with_tabW compassref11_Fits.tab6 compassref11_Fits.bits6 (fun HT_ HW_ => ?_)
       generalize wr.drew = w14 at BK318 HB hx319_0 hx320_0 hx321_0 hx321_1 hx321_2 hx321_3 hHeld ⊢
       refine pure_ (i := 0) (N := some 21) (v := ?_) (a' := ?_) #[T, F, F, F, F, F, F, F, F, F, F, F, F, F, F, F, F, F] rfl rfl (any_of HT_.out (by kernel_rfl)) (fun _ _ _ h => h) (Or.inl ⟨by rfl, ?_⟩) ?_ ?_; rotate_left; intro w'; go_simp; with_reducible rfl; rotate_left; simp only [Act.put, sA, sZ, sS, i64_w, i32_w]; rfl
       refine pure_ (i := 1) (N := some 22) (v := ?_) (a' := ?_) #[T, T, F, F, F, F, F, F, F, F, F, F, F, F, F, F, F, F] rfl rfl (any_of HT_.out (by kernel_rfl)) (fun _ _ _ h => h) (Or.inl ⟨by rfl, ?_⟩) ?_ ?_; rotate_left; intro w'; go_simp; with_reducible rfl; rotate_left; simp only [Act.put, sA, sZ, sS, i64_w, i32_w]; rfl
       refine pure_ (i := 2) (N := some 23) (v := ?_) (a' := ?_) #[T, T, T, F, F, F, F, F, F, F, F, F, F, F, F, F, F, F] rfl rfl (any_of HT_.out (by kernel_rfl)) (fun _ _ _ h => h) (Or.inl ⟨by rfl, ?_⟩) ?_ ?_; rotate_left; intro w'; go_simp; with_reducible rfl; rotate_left; simp only [Act.put, sA, sZ, sS, i64_w, i32_w]; rfl
       refine take_ (i := 3) (N := some 24) (v := ?_) (a' := ?_) #[T, T, T, T, F, F, F, F, F, F, F, F, F, F, F, F, F, F] rfl rfl (take_ofW HT_.out HW_.out (by kernel_rfl)) (fun _ _ _ h => h) (Or.inl ⟨by rfl, ?_⟩) hHeld ?_ ?_; rotate_left; rintro w' ⟨s0, s1, s2, s3, s4, s5, s6, s7⟩; go_simp; with_reducible rfl; rotate_left; simp only [Act.put, sA, sZ, sS, i64_w, i32_w]; rfl
       refine pure_ (i := 4) (N := some 25) (v := ?_) (a' := ?_) #[T, T, T, T, T, F, F, F, F, F, F, F, F, F, F, F, F, F] rfl rfl (any_of HT_.out (by kernel_rfl)) (fun _ _ _ h => h) (Or.inl ⟨by rfl, ?_⟩) ?_ ?_; rotate_left; intro w'; go_simp; with_reducible rfl; rotate_left; simp only [Act.put, sA, sZ, sS, i64_w, i32_w]; rfl
       refine pure_ (i := 5) (N := some 26) (v := ?_) (a' := ?_) #[T, T, T, T, T, T, F, F, F, F, F, F, F, F, F, F, F, F] rfl rfl (any_of HT_.out (by kernel_rfl)) (fun _ _ _ h => h) (Or.inl ⟨by rfl, ?_⟩) ?_ ?_; rotate_left; intro w'; go_simp; with_reducible rfl; rotate_left; simp only [Act.put, sA, sZ, sS, i64_w, i32_w]; rfl
       refine pure_ (i := 6) (N := some 27) (v := ?_) (a' := ?_) #[T, T, T, T, T, T, T, F, F, F, F, F, F, F, F, F, F, F] rfl rfl (any_of HT_.out (by kernel_rfl)) (fun _ _ _ h => h) (Or.inl ⟨by rfl, ?_⟩) ?_ ?_; rotate_left; intro w'; go_simp; with_reducible rfl; rotate_left; simp only [Act.put, sA, sZ, sS, i64_w, i32_w]; rfl
       refine pure_ (i := 7) (N := some 28) (v := ?_) (a' := ?_) #[T, T, T, T, T, T, T, T, F, F, F, F, F, F, F, F, F, F] rfl rfl (any_of HT_.out (by kernel_rfl)) (fun _ _ _ h => h) (Or.inl ⟨by rfl, ?_⟩) ?_ ?_; rotate_left; intro w'; go_simp; with_reducible rfl; rotate_left; simp only [Act.put, sA, sZ, sS, i64_w, i32_w]; rfl
       refine pure_ (i := 8) (N := some 29) (v := ?_) (a' := ?_) #[T, T, T, T, T, T, T, T, T, F, F, F, F, F, F, F, F, F] rfl rfl (any_of HT_.out (by kernel_rfl)) (fun _ _ _ h => h) (Or.inl ⟨by rfl, ?_⟩) ?_ ?_; rotate_left; intro w'; go_simp; with_reducible rfl; rotate_left; simp only [Act.put, sA, sZ, sS, i64_w, i32_w]; rfl
       refine pure_ (i := 10) (N := some 31) (v := ?_) (a' := ?_) #[T, T, T, T, T, T, T, T, T, F, T, F, F, F, F, F, F, F] rfl rfl (any_of HT_.out (by kernel_rfl)) (fun _ _ _ h => h) (Or.inl ⟨by rfl, ?_⟩) ?_ ?_; rotate_left; intro w'; go_simp; with_reducible rfl; rotate_left; simp only [Act.put, sA, sZ, sS, i64_w, i32_w]; rfl
       refine pure_ (i := 12) (N := some 33) (v := ?_) (a' := ?_) #[T, T, T, T, T, T, T, T, T, F, T, F, T, F, F, F, F, F] rfl rfl (any_of HT_.out (by kernel_rfl)) (fun _ _ _ h => h) (Or.inl ⟨by rfl, ?_⟩) ?_ ?_; rotate_left; intro w'; go_simp; with_reducible rfl; rotate_left; simp only [Act.put, sA, sZ, sS, i64_w, i32_w]; rfl
       refine take_ (i := 9) (N := some 30) (v := ?_) (a' := ?_) #[T, T, T, T, T, T, T, T, T, T, T, F, T, F, F, F, F, F] rfl rfl (take_ofW HT_.out HW_.out (by kernel_rfl)) (fun _ _ _ h => h) (Or.inl ⟨by rfl, ?_⟩) hHeld ?_ ?_; rotate_left; rintro w' ⟨s0, s1, s2, s3, s4, s5, s6, s7⟩; go_simp; with_reducible rfl; rotate_left; simp only [Act.put, sA, sZ, sS, i64_w, i32_w]; rfl
       refine take_ (i := 11) (N := some 32) (v := ?_) (a' := ?_) #[T, T, T, T, T, T, T, T, T, T, T, T, T, F, F, F, F, F] rfl rfl (take_ofW HT_.out HW_.out (by kernel_rfl)) (fun _ _ _ h => h) (Or.inl ⟨by rfl, ?_⟩) hHeld ?_ ?_; rotate_left; rintro w' ⟨s0, s1, s2, s3, s4, s5, s6, s7⟩; go_simp; with_reducible rfl; rotate_left; simp only [Act.put, sA, sZ, sS, i64_w, i32_w]; rfl
       refine pure_ (i := 13) (N := some 34) (v := ?_) (a' := ?_) #[T, T, T, T, T, T, T, T, T, T, T, T, T, T, F, F, F, F] rfl rfl (any_of HT_.out (by kernel_rfl)) (fun _ _ _ h => h) (Or.inl ⟨by rfl, ?_⟩) ?_ ?_; rotate_left; intro w'; go_simp; with_reducible rfl; rotate_left; simp only [Act.put, sA, sZ, sS, i64_w, i32_w]; rfl
       refine pure_ (i := 14) (N := some 35) (v := ?_) (a' := ?_) #[T, T, T, T, T, T, T, T, T, T, T, T, T, T, T, F, F, F] rfl rfl (any_of HT_.out (by kernel_rfl)) (fun _ _ _ h => h) (Or.inl ⟨by rfl, ?_⟩) ?_ ?_; rotate_left; intro w'; go_simp; with_reducible rfl; rotate_left; simp only [Act.put, sA, sZ, sS, i64_w, i32_w]; rfl
       refine take_ (i := 15) (N := some 36) (v := ?_) (a' := ?_) #[T, T, T, T, T, T, T, T, T, T, T, T, T, T, T, T, F, F] rfl rfl (take_ofW HT_.out HW_.out (by kernel_rfl)) (fun _ _ _ h => h) (Or.inl ⟨by rfl, ?_⟩) hHeld ?_ ?_; rotate_left; rintro w' ⟨s0, s1, s2, s3, s4, s5, s6, s7⟩; go_simp; with_reducible rfl; rotate_left; simp only [Act.put, sA, sZ, sS, i64_w, i32_w]; rfl
       refine pure_ (i := 16) (N := some 37) (v := ?_) (a' := ?_) #[T, T, T, T, T, T, T, T, T, T, T, T, T, T, T, T, T, F] rfl rfl (any_of HT_.out (by kernel_rfl)) (fun _ _ _ h => h) (Or.inl ⟨by rfl, ?_⟩) ?_ ?_; rotate_left; intro w'; go_simp; with_reducible rfl; rotate_left; simp only [Act.put, sA, sZ, sS, i64_w, i32_w]; rfl
       refine pure_ (i := 17) (N := some 38) (v := ?_) (a' := ?_) #[T, T, T, T, T, T, T, T, T, T, T, T, T, T, T, T, T, T] rfl rfl (any_of HT_.out (by kernel_rfl)) (fun _ _ _ h => h) (Or.inl ⟨by rfl, ?_⟩) ?_ ?_; rotate_left; intro w'; go_simp; with_reducible rfl; rotate_left; simp only [Act.put, sA, sZ, sS, i64_w, i32_w]; rfl
       refine done_ (done_of HT_.out (by kernel_rfl)) ?_
       try go_wp2
       go_roundg k1
       case measure => have := HK1.out; omega
       case rel => exact ⟨(wrap64 (x7_1 + 1)), (by first | rfl | (simp [*]; done)), H', ⟨by have := HK1.out; omega⟩, ⟨bx BK318.out⟩, ⟨lb⟩⟩
    ·
     rw [if_neg c7] at H; have c7b0 : decide (x7_1 < (l1.length : Int)) = false := decide_eq_false c7; clear c7; have H' := ak H; clear H
     go_wp2
     go_loopg [8] k1 (fun kq v8 w' => ∃ (x8_2 : Int), v8 = .int .i64 x8_2 ∧ Aside0 (compassref11_Fits.l1 kq l1 l2 x8_2 a0_0 l0_1 = some r) ∧ Aside0 (kq ≤ k1) ∧ Aside0 (w'.heap[gb318]? = some (.cells #[.int .i64 a0_0, (.slice A0_1 l0_1.length c0_1)] 24 (0, 0))) ∧ Aside0 (Below w.heap.size w w'))
     case atStart => exact ⟨(0), (by first | rfl | (simp [*]; done)), H', ⟨Nat.le_refl _⟩, ⟨bx BK318.out⟩, ⟨lb⟩⟩
     case round =>
      clear H'; obtain ⟨x8_2, rfl, HA, HK2, BK318, HB⟩ := hrel
      cases gk with
      | zero => exact absurd HA.out (by simp [compassref11_Fits.l1])
      | succ k2 =>
       have H := HA.out; clear HA
       simp only [compassref11_Fits.l1] at H
       by_cases c15 : x8_2 < a0_0
       ·
        rw [if_pos c15] at H; have c15b0 := decide_eq_true c15; clear c15; replace H := Option.bind_eq_some_iff.mp H; obtain ⟨t322, A160, H⟩ := H; replace H : (if 0 ≤ x8_2 then (if x8_2 < (l2.length : Int) then (if t322 = (rd l2 x8_2) then (compassref11_Fits.l1 k2 l1 l2 (wrap64 (x8_2 + 1)) a0_0 l0_1) else (some false)) else (none)) else (none)) = some r := H; have A16 := ak A160; clear A160; replace H := ifd H; obtain ⟨c17b0, H⟩ := H; replace H := ifd H; obtain ⟨c18b0, H⟩ := H
        by_cases c19 : t322 = (rd l2 x8_2)
        ·
         rw [if_pos c19] at H; have c19b0 : (t322 == (rd l2 x8_2)) = true := beq_iff_eq.mpr c19; have c19b1 : (t322 != (rd l2 x8_2)) = false := bne_eq_false_iff_eq.mpr c19; clear c19; have H' := ak H; clear H; have hcz20_0 := bc0 BK318; have hcz20_1 := bc1 BK318; have hfz20_0 := bf BK318 0; have hfz20_1 := bf BK318 1
         try go_wp2
         have n_ := a2 (blk_drew BK318.out) (below_drew1 HB.out); clear BK318 HB; obtain ⟨BK318, HB⟩ := n_; have p323 : 0 ≤ (x8_2 : Int) := oda; have q323 : x8_2 < (l2.length : Int) := oda; obtain ⟨ad323, e323, hx323_0⟩ := Kd.at_int HR2.out x8_2 p323 q323; have hw323_0 := hx323_0; cases e323
         (try replace hx323_0 := hbc HB hx323_0)
         replace p323 := eq_true p323; replace q323 := eq_true q323
         refine start_ (n := 9) (S := fun w' => w'.cell? ⟨gb318, 0, none⟩ = some (.int .i64 a0_0) ∧ w'.cell? ⟨gb318, 1, none⟩ = some (.slice A0_1 l0_1.length c0_1) ∧ w'.cell? (ad323.add (x8_2).toNat) = some (.int .i64 (rd l2 x8_2))) (ds := []) #[F, F, F, F, F, F, F, F, F] (by kernel_rfl) rfl rfl ⟨(blk_cell BK318.out 0).trans rfl, (blk_cell BK318.out 1).trans rfl, ((HB.out.cell (World.block_lt_of_cell? w _ hw323_0)).trans hw323_0)⟩ (fun hHeld => ?_); refine with_tabW compassref11_Fits.tab11 compassref11_Fits.bits11 (fun HT_ HW_ => ?_)
         generalize wr.drew = w21 at BK318 HB hx323_0 hHeld ⊢
         refine pure_ (i := 1) (N := some 46) (v := ?_) (a' := ?_) #[F, T, F, F, F, F, F, F, F] rfl rfl (any_of HT_.out (by kernel_rfl)) (fun _ _ _ h => h) (Or.inl ⟨by rfl, ?_⟩) ?_ ?_; rotate_left; intro w'; go_simp; with_reducible rfl; rotate_left; simp only [Act.put, sA, sZ, sS, i64_w, i32_w]; rfl
         refine pure_ (i := 2) (N := some 47) (v := ?_) (a' := ?_) #[F, T, T, F, F, F, F, F, F] rfl rfl (any_of HT_.out (by kernel_rfl)) (fun _ _ _ h => h) (Or.inl ⟨by rfl, ?_⟩) ?_ ?_; rotate_left; intro w'; go_simp; with_reducible rfl; rotate_left; simp only [Act.put, sA, sZ, sS, i64_w, i32_w]; rfl
         refine pure_ (i := 4) (N := some 49) (v := ?_) (a' := ?_) #[F, T, T, F, T, F, F, F, F] rfl rfl (any_of HT_.out (by kernel_rfl)) (fun _ _ _ h => h) (Or.inl ⟨by rfl, ?_⟩) ?_ ?_; rotate_left; intro w'; go_simp; with_reducible rfl; rotate_left; simp only [Act.put, sA, sZ, sS, i64_w, i32_w]; rfl
         refine pure_ (i := 5) (N := some 50) (v := ?_) (a' := ?_) #[F, T, T, F, T, T, F, F, F] rfl rfl (any_of HT_.out (by kernel_rfl)) (fun _ _ _ h => h) (Or.inl ⟨by rfl, ?_⟩) ?_ ?_; rotate_left; intro w'; go_simp; with_reducible rfl; rotate_left; simp only [Act.put, sA, sZ, sS, i64_w, i32_w]; rfl
         refine pure_ (i := 6) (N := some 51) (v := ?_) (a' := ?_) #[F, T, T, F, T, T, T, F, F] rfl rfl (any_of HT_.out (by kernel_rfl)) (fun _ _ _ h => h) (Or.inl ⟨by rfl, ?_⟩) ?_ ?_; rotate_left; intro w'; go_simp; with_reducible rfl; rotate_left; simp only [Act.put, sA, sZ, sS, i64_w, i32_w]; rfl
         refine take_ (i := 0) (N := some 45) (v := ?_) (a' := ?_) #[T, T, T, F, T, T, T, F, F] rfl rfl (take_ofW HT_.out HW_.out (by kernel_rfl)) (fun _ _ _ h => h) (Or.inl ⟨by rfl, ?_⟩) hHeld ?_ ?_; rotate_left; rintro w' ⟨s0, s1, s2⟩; go_simp; with_reducible rfl; rotate_left; simp only [Act.put, sA, sZ, sS, i64_w, i32_w]; rfl
         refine take_ (i := 7) (N := some 52) (v := ?_) (a' := ?_) #[T, T, T, F, T, T, T, T, F] rfl rfl (take_ofW HT_.out HW_.out (by kernel_rfl)) (fun _ _ _ h => h) (Or.inl ⟨by rfl, ?_⟩) hHeld ?_ ?_; rotate_left; rintro w' ⟨s0, s1, s2⟩; go_simp; with_reducible rfl; rotate_left; simp only [Act.put, sA, sZ, sS, i64_w, i32_w]; rfl
         refine one_ (i := 3) (N := some 48) #[T, T, T, T, T, T, T, T, F] rfl rfl (one_of HT_.out (by kernel_rfl)) (by decide) (fun K hK => ?_)
         refine goes_ Try.func18 (by kernel_rfl) rfl #[.agg #[.int .i64 a0_0, .slice A0_1 l0_1.length c0_1], .slice A1 l1.length c1, .int .i64 x8_2] (by rfl) rfl rfl (by (try simp only [List.map_toArray, List.map_cons, List.map_nil]); first | done | rfl | (simp only [List.length_drop, List.length_take]; rfl)) ?_
         with_reducible refine (compassref11_Out.calls k2 a0_0 _ _ l0_1 _ _ l1 x8_2 t322 _ ?side1 ?side2 ?side3 ?side4 A16.out).mono ?_
         (case side1 => exact Kd.C_below HR0_1.out lb)
         (case side2 => exact HC0_1.out)
         (case side3 => exact Kd.C_below HR1.out lb)
         (case side4 => exact HC1.out)
         rintro e w22 ⟨rfl, hb⟩
         refine ⟨_, rfl, ?_⟩
         have n_ := a2 (blk_below (bx BK318.out) hb) (below_step lb hb); clear BK318 HB; obtain ⟨BK318, HB⟩ := n_
         (try clear hb)
         (try clear hb2)
         (try clear hk)
         (try clear hi)
         refine hK.out _ _ ⟨(blk_cell BK318.out 0).trans rfl, (blk_cell BK318.out 1).trans rfl, ((HB.out.cell (World.block_lt_of_cell? w _ hw323_0)).trans hw323_0)⟩ (fun hHeld => ?_)
         clear hK K
         refine norm_ (a' := ?_) ?_ ?_
         rotate_left
         ·
          show Act.put _ (some 48) _ = _
          simp only [Act.put, sA, sZ, sS, i64_w, i32_w]
          rfl
         refine pure_ (i := 8) (N := some 53) (v := ?_) (a' := ?_) #[T, T, T, T, T, T, T, T, T] rfl rfl (any_of HT_.out (by kernel_rfl)) (fun _ _ _ h => h) (Or.inl ⟨by rfl, ?_⟩) ?_ ?_; rotate_left; intro w'; go_simp; with_reducible rfl; rotate_left; simp only [Act.put, sA, sZ, sS, i64_w, i32_w]; rfl
         refine done_ (done_of HT_.out (by kernel_rfl)) ?_
         try go_wp2
         go_roundg k2
         case measure => have := HK1.out; have := HK2.out; omega
         case rel => exact ⟨(wrap64 (x8_2 + 1)), (by first | rfl | (simp [*]; done)), H', ⟨by have := HK1.out; have := HK2.out; omega⟩, ⟨bx BK318.out⟩, ⟨lb⟩⟩
        ·
         rw [if_neg c19] at H; have c19b0 : (t322 == (rd l2 x8_2)) = false := beq_eq_false_iff_ne.mpr c19; have c19b1 : (t322 != (rd l2 x8_2)) = true := bne_iff_ne.mpr c19; obtain rfl := Option.some.inj H; have hcz23_0 := bc0 BK318; have hcz23_1 := bc1 BK318; have hfz23_0 := bf BK318 0; have hfz23_1 := bf BK318 1
         try go_wp2
         have n_ := a2 (blk_drew BK318.out) (below_drew1 HB.out); clear BK318 HB; obtain ⟨BK318, HB⟩ := n_; have p323 : 0 ≤ (x8_2 : Int) := oda; have q323 : x8_2 < (l2.length : Int) := oda; obtain ⟨ad323, e323, hx323_0⟩ := Kd.at_int HR2.out x8_2 p323 q323; have hw323_0 := hx323_0; cases e323
         (try replace hx323_0 := hbc HB hx323_0)
         replace p323 := eq_true p323; replace q323 := eq_true q323
         refine start_ (n := 9) (S := fun w' => w'.cell? ⟨gb318, 0, none⟩ = some (.int .i64 a0_0) ∧ w'.cell? ⟨gb318, 1, none⟩ = some (.slice A0_1 l0_1.length c0_1) ∧ w'.cell? (ad323.add (x8_2).toNat) = some (.int .i64 (rd l2 x8_2))) (ds := []) #[F, F, F, F, F, F, F, F, F] (by kernel_rfl) rfl rfl ⟨(blk_cell BK318.out 0).trans rfl, (blk_cell BK318.out 1).trans rfl, ((HB.out.cell (World.block_lt_of_cell? w _ hw323_0)).trans hw323_0)⟩ (fun hHeld => ?_); refine with_tabW compassref11_Fits.tab11 compassref11_Fits.bits11 (fun HT_ HW_ => ?_)
         generalize wr.drew = w24 at BK318 HB hx323_0 hHeld ⊢
         refine pure_ (i := 1) (N := some 46) (v := ?_) (a' := ?_) #[F, T, F, F, F, F, F, F, F] rfl rfl (any_of HT_.out (by kernel_rfl)) (fun _ _ _ h => h) (Or.inl ⟨by rfl, ?_⟩) ?_ ?_; rotate_left; intro w'; go_simp; with_reducible rfl; rotate_left; simp only [Act.put, sA, sZ, sS, i64_w, i32_w]; rfl
         refine pure_ (i := 2) (N := some 47) (v := ?_) (a' := ?_) #[F, T, T, F, F, F, F, F, F] rfl rfl (any_of HT_.out (by kernel_rfl)) (fun _ _ _ h => h) (Or.inl ⟨by rfl, ?_⟩) ?_ ?_; rotate_left; intro w'; go_simp; with_reducible rfl; rotate_left; simp only [Act.put, sA, sZ, sS, i64_w, i32_w]; rfl
         refine pure_ (i := 4) (N := some 49) (v := ?_) (a' := ?_) #[F, T, T, F, T, F, F, F, F] rfl rfl (any_of HT_.out (by kernel_rfl)) (fun _ _ _ h => h) (Or.inl ⟨by rfl, ?_⟩) ?_ ?_; rotate_left; intro w'; go_simp; with_reducible rfl; rotate_left; simp only [Act.put, sA, sZ, sS, i64_w, i32_w]; rfl
         refine pure_ (i := 5) (N := some 50) (v := ?_) (a' := ?_) #[F, T, T, F, T, T, F, F, F] rfl rfl (any_of HT_.out (by kernel_rfl)) (fun _ _ _ h => h) (Or.inl ⟨by rfl, ?_⟩) ?_ ?_; rotate_left; intro w'; go_simp; with_reducible rfl; rotate_left; simp only [Act.put, sA, sZ, sS, i64_w, i32_w]; rfl
         refine pure_ (i := 6) (N := some 51) (v := ?_) (a' := ?_) #[F, T, T, F, T, T, T, F, F] rfl rfl (any_of HT_.out (by kernel_rfl)) (fun _ _ _ h => h) (Or.inl ⟨by rfl, ?_⟩) ?_ ?_; rotate_left; intro w'; go_simp; with_reducible rfl; rotate_left; simp only [Act.put, sA, sZ, sS, i64_w, i32_w]; rfl
         refine take_ (i := 0) (N := some 45) (v := ?_) (a' := ?_) #[T, T, T, F, T, T, T, F, F] rfl rfl (take_ofW HT_.out HW_.out (by kernel_rfl)) (fun _ _ _ h => h) (Or.inl ⟨by rfl, ?_⟩) hHeld ?_ ?_; rotate_left; rintro w' ⟨s0, s1, s2⟩; go_simp; with_reducible rfl; rotate_left; simp only [Act.put, sA, sZ, sS, i64_w, i32_w]; rfl
         refine take_ (i := 7) (N := some 52) (v := ?_) (a' := ?_) #[T, T, T, F, T, T, T, T, F] rfl rfl (take_ofW HT_.out HW_.out (by kernel_rfl)) (fun _ _ _ h => h) (Or.inl ⟨by rfl, ?_⟩) hHeld ?_ ?_; rotate_left; rintro w' ⟨s0, s1, s2⟩; go_simp; with_reducible rfl; rotate_left; simp only [Act.put, sA, sZ, sS, i64_w, i32_w]; rfl
         refine one_ (i := 3) (N := some 48) #[T, T, T, T, T, T, T, T, F] rfl rfl (one_of HT_.out (by kernel_rfl)) (by decide) (fun K hK => ?_)
         refine goes_ Try.func18 (by kernel_rfl) rfl #[.agg #[.int .i64 a0_0, .slice A0_1 l0_1.length c0_1], .slice A1 l1.length c1, .int .i64 x8_2] (by rfl) rfl rfl (by (try simp only [List.map_toArray, List.map_cons, List.map_nil]); first | done | rfl | (simp only [List.length_drop, List.length_take]; rfl)) ?_
         with_reducible refine (compassref11_Out.calls k2 a0_0 _ _ l0_1 _ _ l1 x8_2 t322 _ ?side1 ?side2 ?side3 ?side4 A16.out).mono ?_
         (case side1 => exact Kd.C_below HR0_1.out lb)
         (case side2 => exact HC0_1.out)
         (case side3 => exact Kd.C_below HR1.out lb)
         (case side4 => exact HC1.out)
         rintro e w25 ⟨rfl, hb⟩
         refine ⟨_, rfl, ?_⟩
         have n_ := a2 (blk_below (bx BK318.out) hb) (below_step lb hb); clear BK318 HB; obtain ⟨BK318, HB⟩ := n_
         (try clear hb)
         (try clear hb2)
         (try clear hk)
         (try clear hi)
         refine hK.out _ _ ⟨(blk_cell BK318.out 0).trans rfl, (blk_cell BK318.out 1).trans rfl, ((HB.out.cell (World.block_lt_of_cell? w _ hw323_0)).trans hw323_0)⟩ (fun hHeld => ?_)
         clear hK K
         refine norm_ (a' := ?_) ?_ ?_
         rotate_left
         ·
          show Act.put _ (some 48) _ = _
          simp only [Act.put, sA, sZ, sS, i64_w, i32_w]
          rfl
         refine pure_ (i := 8) (N := some 53) (v := ?_) (a' := ?_) #[T, T, T, T, T, T, T, T, T] rfl rfl (any_of HT_.out (by kernel_rfl)) (fun _ _ _ h => h) (Or.inl ⟨by rfl, ?_⟩) ?_ ?_; rotate_left; intro w'; go_simp; with_reducible rfl; rotate_left; simp only [Act.put, sA, sZ, sS, i64_w, i32_w]; rfl
         refine done_ (done_of HT_.out (by kernel_rfl)) ?_
         try go_wp2
         go_ret
         exact ⟨by first | rfl | (simp [errW_none, errW_some] <;> rfl) | (simp [*, errW_none, errW_some] <;> rfl), lb⟩
       ·
        rw [if_neg c15] at H; have c15b0 : decide (x8_2 < a0_0) = false := decide_eq_false c15; clear c15; obtain rfl := Option.some.inj H; have hcz26_0 := bc0 BK318; have hcz26_1 := bc1 BK318; have hfz26_0 := bf BK318 0; have hfz26_1 := bf BK318 1
        go_wp2
        go_ret
        exact ⟨by first | rfl | (simp [errW_none, errW_some] <;> rfl) | (simp [*, errW_none, errW_some] <;> rfl), lb⟩
 ·
  rw [if_neg c4] at H; have c4b0 : ((l1.length : Int) == (l0_1.length : Int)) = false := beq_eq_false_iff_ne.mpr c4; have c4b1 : ((l1.length : Int) != (l0_1.length : Int)) = true := bne_iff_ne.mpr c4; have c4b2 : (l1.length == l0_1.length) = false := by first | simpa using c4 | (simp at c4 ⊢; omega)
  obtain rfl := Option.some.inj H
  go_enter Try.func30, Try.ntmps30
  go_wp2_with (first | ((with_reducible refine gate_dst (N := 3) rfl ?_); refine box_event ?hg (N := 3) ?hd (cs := #[.int .i64 a0_0, .slice A0_1 l0_1.length c0_1]) (t := 24) ?hr ?_; (case hd => rfl); (case hg => rfl); (case hr => first | (go_simp; done) | (go_simp; rfl)); intro gb318 hg w27 hbox hb; have n_ := a4 (below_step lb hb) hbox (gw w hg) (gw w hg); clear HB; obtain ⟨HB, BK318, GW318, GE318⟩ := n_; clear hb hbox hg; have hcz28_0 := bc0 BK318; have hcz28_1 := bc1 BK318; have hfz28_0 := bf BK318 0; have hfz28_1 := bf BK318 1))
  go_ret
  exact ⟨by first | rfl | (simp [errW_none, errW_some] <;> rfl) | (simp [*, errW_none, errW_some] <;> rfl), lb⟩

end Go.Proofs.Ytkdoihcjhccliaa.Q
