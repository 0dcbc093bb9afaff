-- PRINTED by print.py (a twelfth state) out of the translation. Not trusted: Lean checks it.
import Derived.Test.YtplbkggdnonfbaaQ0
import Derived.Test.YtplbkggdnonfbaaQ12
import Derived.Test.YtplbkggdnonfbaaQ13
import Derived.Test.YtplbkggdnonfbaaQ14
import Derived.Test.YtplbkggdnonfbaaQ22
import Derived.Test.YtplbkggdnonfbaaQ23
import Derived.Test.YtplbkggdnonfbaaQ24
namespace Go.Proofs.Ytplbkggdnonfbaa.Q
open Go.RowKit Go.Proofs.YtplbkggdnonfbaaW.PrintWords Go.Proofs.YtplbkggdnonfbaaW.PrintLast Go.Proofs.YtplbkggdnonfbaaW.PrintMore
attribute [local go_sem] max2_int min2_int max_two min_two max_three min_three max_four min_four   -- for this text's walks alone
set_option linter.unusedVariables false
set_option linter.unusedSimpArgs false

/-! ### compasslaw09_EulerChecks: function 4 -/
def compasslaw09_EulerChecks.f (k : Nat) (a0_0 : Int) (l0_1 : List (S45)) (a1_0 : Int) (l1_1 : List (S51)) (a2 : Bool) : Option (Bool) := (compasslaw09_awake.f k).bind fun t432 => (if t432 = true then ((euler_End.f k a0_0 l0_1 a1_0 l1_1).bind fun bt433 => ((compasslaw09_plain.f k a1_0 l1_1).bind fun t435 => ((compassref09_End.f k a0_0 l0_1 a1_0 t435).bind fun bt438 => (if bt433.1 = bt438.1 then (if bt433.2 = bt438.2 then ((euler_Covers.f k a0_0 l0_1 a1_0 l1_1 a2).bind fun t440 => ((compasslaw09_plain.f k a1_0 l1_1).bind fun t441 => ((compassref09_Covers.f k a0_0 l0_1 a1_0 t441 a2).bind fun t444 => (some (t440 == t444))))) else (some false)) else (some false))))) else (some false))
theorem compasslaw09_EulerChecks.mono : ∀ a0 a1 a2 a3 a4 k, LeO (compasslaw09_EulerChecks.f k a0 a1 a2 a3 a4) (compasslaw09_EulerChecks.f (k + 1) a0 a1 a2 a3 a4) := by
  intro a0 a1 a2 a3 a4 k
  unfold compasslaw09_EulerChecks.f
  repeat' first
      | (with_reducible exact compasslaw09_awake.mono _)
      | (with_reducible exact compasslaw09_plain.mono _ _ _)
      | (with_reducible exact compassref09_Covers.mono _ _ _ _ _ _)
      | (with_reducible exact compassref09_End.mono _ _ _ _ _)
      | (with_reducible exact euler_Covers.mono _ _ _ _ _ _)
      | (with_reducible exact euler_End.mono _ _ _ _ _)
      | (with_reducible exact LeO.refl _)
      | (with_reducible exact LeO.none _)
      | (with_reducible refine LeO.ite ?_ ?_)
      | (with_reducible refine LeO.bind ?_ (fun _ => ?_))
      | exact compasslaw09_awake.mono _
      | exact compasslaw09_plain.mono _ _ _
      | exact compassref09_Covers.mono _ _ _ _ _ _
      | exact compassref09_End.mono _ _ _ _ _
      | exact euler_Covers.mono _ _ _ _ _ _
      | exact euler_End.mono _ _ _ _ _
      | exact LeO.none _
      | refine LeO.ite ?_ ?_
      | refine LeO.bind ?_ (fun _ => ?_)
def compasslaw09_EulerChecks.T4 : Bool × List (List Nat × List Nat) := (true, [([], []), ([], []), ([1], [1]), ([], []), ([3], [3]), ([0, 2, 4, 4], [0, 2, 4]), ([5], [5]), ([6], [6]), ([6], [6]), ([7, 5, 0, 1, 2, 3, 4, 5, 6, 7], [7]), ([8, 9, 0, 1, 2, 3, 4, 5, 6, 7, 8, 9], [8])])
def compasslaw09_EulerChecks.B4 : List Nat := [0, 0, 2, 0, 8, 31, 63, 127, 127, 255, 1023]
theorem compasslaw09_EulerChecks.tab4 : rtab .any (opsOf Try.f4 4) = compasslaw09_EulerChecks.T4 := by kernel_rfl
theorem compasslaw09_EulerChecks.bits4 : waitsOk compasslaw09_EulerChecks.T4.2 compasslaw09_EulerChecks.B4 = true := by kernel_rfl
def compasslaw09_EulerChecks.T5 : Bool × List (List Nat × List Nat) := (true, [([], []), ([], []), ([0, 1], [0, 1]), ([2], [2]), ([3], [3]), ([3], [3]), ([4, 5, 3], [3, 4, 5]), ([3, 6], [3, 6]), ([7, 3], [7]), ([8], [8]), ([8], [8]), ([8], [8]), ([9, 10, 11, 8, 8], [8, 9, 10, 11]), ([8], [8]), ([8], [8]), ([14, 8], [8, 14]), ([8], [8]), ([16, 12, 8], [8, 16]), ([8], [8]), ([13, 15, 17, 18, 17, 8], [8, 13, 15, 17, 18]), ([12, 19, 8], [8, 12, 19]), ([8, 20], [8, 20]), ([21, 19, 0, 1, 2, 3, 4, 5, 6, 7, 8, 9, 10, 11, 12, 13, 14, 15, 16, 17, 18, 19, 20, 21], [21])])
def compasslaw09_EulerChecks.B5 : List Nat := [0, 0, 3, 7, 15, 15, 63, 127, 255, 511, 511, 511, 4095, 511, 511, 16895, 511, 73727, 511, 524287, 1048575, 2097151, 4194303]
theorem compasslaw09_EulerChecks.tab5 : rtab .any (opsOf Try.f4 5) = compasslaw09_EulerChecks.T5 := by kernel_rfl
theorem compasslaw09_EulerChecks.bits5 : waitsOk compasslaw09_EulerChecks.T5.2 compasslaw09_EulerChecks.B5 = true := by kernel_rfl
set_option maxHeartbeats 8000000 in
set_option maxRecDepth 100000 in
theorem compasslaw09_EulerChecks.calls (k : Nat) (a0_0 : Int) (A0_1 : Option Addr) (c0_1 : Nat) (l0_1 : List (S45)) (a1_0 : Int) (A1_1 : Option Addr) (c1_1 : Nat) (l1_1 : List (S51)) (a2 : Bool) (r : Bool) (w : World) (hr0_1 : Kd.C k45 w A0_1 l0_1.length l0_1) (hc0_1 : l0_1.length ≤ c0_1) (hr1_1 : Kd.C k51 w A1_1 l1_1.length l1_1) (hc1_1 : l1_1.length ≤ c1_1) (hr_ : r = true) (h : compasslaw09_EulerChecks.f k a0_0 l0_1 a1_0 l1_1 a2 = some r) :
    Calls Try.prog 4 #[.agg #[.int .i64 a0_0, .slice A0_1 l0_1.length c0_1], .agg #[.int .i64 a1_0, .slice A1_1 l1_1.length c1_1], .bool a2] w fun e w' => e = .returned (.bool r) ∧ Below w.heap.size w w' := by
 have hu24 := Try.underlying24
 have hu28 := Try.underlying28
 have HR0_1 := ak hr0_1
 have HC0_1 := ak hc0_1
 clear hr0_1 hc0_1
 have HR1_1 := ak hr1_1
 have HC1_1 := ak hc1_1
 clear hr1_1 hc1_1
 have HB := ak (Below.refl w.heap.size w)
 have HR_ := ak hr_
 clear hr_
 have H : ((compasslaw09_awake.f k).bind fun t432 => (if t432 = true then ((euler_End.f k a0_0 l0_1 a1_0 l1_1).bind fun bt433 => ((compasslaw09_plain.f k a1_0 l1_1).bind fun t435 => ((compassref09_End.f k a0_0 l0_1 a1_0 t435).bind fun bt438 => (if bt433.1 = bt438.1 then (if bt433.2 = bt438.2 then ((euler_Covers.f k a0_0 l0_1 a1_0 l1_1 a2).bind fun t440 => ((compasslaw09_plain.f k a1_0 l1_1).bind fun t441 => ((compassref09_Covers.f k a0_0 l0_1 a1_0 t441 a2).bind fun t444 => (some (t440 == t444))))) else (some false)) else (some false))))) else (some false))) = some r := h
 clear h
 replace H := Option.bind_eq_some_iff.mp H
 obtain ⟨t432, A40, H⟩ := H
 replace H : (if t432 = true then ((euler_End.f k a0_0 l0_1 a1_0 l1_1).bind fun bt433 => ((compasslaw09_plain.f k a1_0 l1_1).bind fun t435 => ((compassref09_End.f k a0_0 l0_1 a1_0 t435).bind fun bt438 => (if bt433.1 = bt438.1 then (if bt433.2 = bt438.2 then ((euler_Covers.f k a0_0 l0_1 a1_0 l1_1 a2).bind fun t440 => ((compasslaw09_plain.f k a1_0 l1_1).bind fun t441 => ((compassref09_Covers.f k a0_0 l0_1 a1_0 t441 a2).bind fun t444 => (some (t440 == t444))))) else (some false)) else (some false))))) else (some false)) = some r := H
 have A4 := ak A40
 clear A40
 by_cases c5 : t432 = true
 ·
  subst c5
  have H1 : ((euler_End.f k a0_0 l0_1 a1_0 l1_1).bind fun bt433 => ((compasslaw09_plain.f k a1_0 l1_1).bind fun t435 => ((compassref09_End.f k a0_0 l0_1 a1_0 t435).bind fun bt438 => (if bt433.1 = bt438.1 then (if bt433.2 = bt438.2 then ((euler_Covers.f k a0_0 l0_1 a1_0 l1_1 a2).bind fun t440 => ((compasslaw09_plain.f k a1_0 l1_1).bind fun t441 => ((compassref09_Covers.f k a0_0 l0_1 a1_0 t441 a2).bind fun t444 => (some (t440 == t444))))) else (some false)) else (some false))))) = some r := by rw [if_pos rfl] at H; exact H
  clear H
  have H := H1
  clear H1
  replace H := Option.bind_eq_some_iff.mp H
  obtain ⟨⟨t433, t434⟩, A60, H⟩ := H
  replace H : ((compasslaw09_plain.f k a1_0 l1_1).bind fun t435 => ((compassref09_End.f k a0_0 l0_1 a1_0 t435).bind fun bt438 => (if t433 = bt438.1 then (if t434 = bt438.2 then ((euler_Covers.f k a0_0 l0_1 a1_0 l1_1 a2).bind fun t440 => ((compasslaw09_plain.f k a1_0 l1_1).bind fun t441 => ((compassref09_Covers.f k a0_0 l0_1 a1_0 t441 a2).bind fun t444 => (some (t440 == t444))))) else (some false)) else (some false)))) = some r := H
  have A6 := ak A60
  clear A60
  replace H := Option.bind_eq_some_iff.mp H
  obtain ⟨t435, A70, H⟩ := H
  replace H : ((compassref09_End.f k a0_0 l0_1 a1_0 t435).bind fun bt438 => (if t433 = bt438.1 then (if t434 = bt438.2 then ((euler_Covers.f k a0_0 l0_1 a1_0 l1_1 a2).bind fun t440 => ((compasslaw09_plain.f k a1_0 l1_1).bind fun t441 => ((compassref09_Covers.f k a0_0 l0_1 a1_0 t441 a2).bind fun t444 => (some (t440 == t444))))) else (some false)) else (some false))) = some r := H
  have A7 := ak A70
  clear A70
  replace H := Option.bind_eq_some_iff.mp H
  obtain ⟨⟨t438, t439⟩, A80, H⟩ := H
  replace H : (if t433 = t438 then (if t434 = t439 then ((euler_Covers.f k a0_0 l0_1 a1_0 l1_1 a2).bind fun t440 => ((compasslaw09_plain.f k a1_0 l1_1).bind fun t441 => ((compassref09_Covers.f k a0_0 l0_1 a1_0 t441 a2).bind fun t444 => (some (t440 == t444))))) else (some false)) else (some false)) = some r := H
  have A8 := ak A80
  clear A80
  by_cases c9 : t433 = t438
  rotate_left
  ·
   rw [if_neg c9] at H
   have c9b0 : (t433 == t438) = false := beq_eq_false_iff_ne.mpr c9
   have c9b1 : (t433 != t438) = true := bne_iff_ne.mpr c9
   exact absurd ((Option.some.inj H).trans HR_.out) (by decide)
  rw [if_pos c9] at H
  have c9b0 : (t433 == t438) = true := beq_iff_eq.mpr c9
  have c9b1 : (t433 != t438) = false := bne_eq_false_iff_eq.mpr c9
  clear c9
  by_cases c10 : t434 = t439
  rotate_left
  ·
   rw [if_neg c10] at H
   have c10b0 : (t434 == t439) = false := beq_eq_false_iff_ne.mpr c10
   have c10b1 : (t434 != t439) = true := bne_iff_ne.mpr c10
   exact absurd ((Option.some.inj H).trans HR_.out) (by decide)
  rw [if_pos c10] at H
  have c10b0 : (t434 == t439) = true := beq_iff_eq.mpr c10
  have c10b1 : (t434 != t439) = false := bne_eq_false_iff_eq.mpr c10
  clear c10
  replace H := Option.bind_eq_some_iff.mp H
  obtain ⟨t440, A110, H⟩ := H
  replace H : ((compasslaw09_plain.f k a1_0 l1_1).bind fun t441 => ((compassref09_Covers.f k a0_0 l0_1 a1_0 t441 a2).bind fun t444 => (some (t440 == t444)))) = some r := H
  have A11 := ak A110
  clear A110
  replace H := Option.bind_eq_some_iff.mp H
  obtain ⟨t441, A120, H⟩ := H
  replace H : ((compassref09_Covers.f k a0_0 l0_1 a1_0 t441 a2).bind fun t444 => (some (t440 == t444))) = some r := H
  have A12 := ak A120
  clear A120
  replace H := Option.bind_eq_some_iff.mp H
  obtain ⟨t444, A130, H⟩ := H
  replace H : (some (t440 == t444)) = some r := H
  have A13 := ak A130
  clear A130
  obtain rfl := Option.some.inj H
  go_enter Try.func4, Try.ntmps4
  try go_wp2_with (first | ((with_reducible refine gate_dst (N := 3) rfl ?_); refine box_event ?hg (N := 3) ?hd (cs := #[.int .i64 a0_0, .slice A0_1 l0_1.length c0_1]) (t := 24) ?hr ?_; (case hd => rfl); (case hg => rfl); (case hr => first | (go_simp; done) | (go_simp; rfl)); intro gb430 hg w14 hbox hb; have n0_ := ak (below_step lb hb); have n1_ := ak (hbox); have n2_ := ak ((by rw [hg]; exact (below_size lb) : w.heap.size ≤ gb430)); have n3_ := ak ((by rw [hg]; exact (below_size lb) : w.heap.size ≤ gb430)); clear HB; have HB := n0_; have BK430 := n1_; have GW430 := n2_; have GE430 := n3_; clear n0_ n1_ n2_ n3_; clear hb hbox hg) | ((with_reducible refine gate_dst (N := 4) rfl ?_); refine box_event ?hg (N := 4) ?hd (cs := #[.int .i64 a1_0, .slice A1_1 l1_1.length c1_1]) (t := 28) ?hr ?_; (case hd => rfl); (case hg => rfl); (case hr => first | (go_simp; done) | (go_simp; rfl)); intro gb431 hg w15 hbox hb; have n0_ := ak (blk_below (bx BK430.out) hb); have n1_ := ak (below_step lb hb); have n2_ := ak (hbox); have n3_ := ak ((by rw [hg]; exact (below_size lb) : w.heap.size ≤ gb431)); have n4_ := ak ((by rw [hg]; exact (below_size lb) : w.heap.size ≤ gb431)); have n5_ := ak ((by rw [hg]; exact Nat.ne_of_lt (blk_lt (g := gb430) (o := .cells #[.int .i64 a0_0, .slice A0_1 l0_1.length c0_1] 24 (0, 0)) (bx BK430.out)) : gb430 ≠ gb431)); have n6_ := ak ((by rw [hg]; exact Nat.ne_of_gt (blk_lt (g := gb430) (o := .cells #[.int .i64 a0_0, .slice A0_1 l0_1.length c0_1] 24 (0, 0)) (bx BK430.out)) : gb431 ≠ gb430)); clear BK430; clear HB; have BK430 := n0_; have HB := n1_; have BK431 := n2_; have GW431 := n3_; have GE431 := n4_; have NB430_431 := n5_; have NB431_430 := n6_; clear n0_ n1_ n2_ n3_ n4_ n5_ n6_; clear hb hbox hg) | ((with_reducible refine gate_callee (f := 8) rfl ?_); refine goesL_ (some 11) rfl rfl Try.func8 (by kernel_rfl) rfl #[] rfl (by (try simp only [List.map_toArray, List.map_cons, List.map_nil]); first | done | rfl | (simp only [List.length_drop, List.length_take]; rfl)) ?_; (with_reducible refine (compasslaw09_awake.calls k  true _ A4.out).mono ?_); rintro e w16 ⟨rfl, hb⟩; refine ⟨_, rfl, ?_⟩; have n0_ := ak (blk_below (bx BK430.out) hb); have n1_ := ak (blk_below (bx BK431.out) hb); have n2_ := ak (below_step lb hb); clear BK430; clear BK431; clear HB; have BK430 := n0_; have BK431 := n1_; have HB := n2_; clear n0_ n1_ n2_; (try clear hb); (try clear hb2); (try clear hk); (try clear hi); have hnb17 := NB430_431.out; have hnc17 := NB431_430.out; have hcz18_0 : w16.cell? ⟨gb430, 0, none⟩ = some (.int .i64 a0_0) := (blk_cell BK430.out 0).trans rfl; have hcz18_1 : w16.cell? ⟨gb430, 1, none⟩ = some (.slice A0_1 l0_1.length c0_1) := (blk_cell BK430.out 1).trans rfl; have hfz18_0 := blk_frozen BK430.out 0; have hfz18_1 := blk_frozen BK430.out 1; have hcz19_0 : w16.cell? ⟨gb431, 0, none⟩ = some (.int .i64 a1_0) := (blk_cell BK431.out 0).trans rfl; have hcz19_1 : w16.cell? ⟨gb431, 1, none⟩ = some (.slice A1_1 l1_1.length c1_1) := (blk_cell BK431.out 1).trans rfl; have hfz19_0 := blk_frozen BK431.out 0; have hfz19_1 := blk_frozen BK431.out 1) | ((with_reducible refine gate_callee (f := 13) rfl ?_); refine goesL_ (some 16) rfl rfl Try.func13 (by kernel_rfl) rfl #[.agg #[.int .i64 a0_0, .slice A0_1 l0_1.length c0_1], .agg #[.int .i64 a1_0, .slice A1_1 l1_1.length c1_1]] rfl (by (try simp only [List.map_toArray, List.map_cons, List.map_nil]); first | done | rfl | (simp only [List.length_drop, List.length_take]; rfl)) ?_; (with_reducible refine (euler_End.calls k a0_0 _ _ l0_1 a1_0 _ _ l1_1 t433 t434 _ ?side1 ?side2 ?side3 ?side4 A6.out).mono ?_); (case side1 => repeat (first | exact (Kd.C_below HR0_1.out HB.out) | (with_reducible refine Kd.C_alloc ?_ _) | (with_reducible refine Kd.C_drewN ?_ _) | (with_reducible refine Kd.C_drew ?_))); (case side2 => exact HC0_1.out); (case side3 => repeat (first | exact (Kd.C_below HR1_1.out HB.out) | (with_reducible refine Kd.C_alloc ?_ _) | (with_reducible refine Kd.C_drewN ?_ _) | (with_reducible refine Kd.C_drew ?_))); (case side4 => exact HC1_1.out); rintro e w20 ⟨rfl, hb⟩; refine ⟨_, rfl, ?_⟩; have n0_ := ak (blk_below (bx BK430.out) hb); have n1_ := ak (blk_below (bx BK431.out) hb); have n2_ := ak (below_step lb hb); clear BK430; clear BK431; clear HB; have BK430 := n0_; have BK431 := n1_; have HB := n2_; clear n0_ n1_ n2_; (try clear hb); (try clear hb2); (try clear hk); (try clear hi)))
  have n0_ := ak (blk_drew BK430.out)
  have n1_ := ak (blk_drew BK431.out)
  have n2_ := ak (below_drew1 HB.out)
  clear BK430
  clear BK431
  clear HB
  have BK430 := n0_
  have BK431 := n1_
  have HB := n2_
  clear n0_ n1_ n2_
  refine start_ (n := 11) (S := fun w' => w'.cell? ⟨gb430, 0, none⟩ = some (.int .i64 a0_0) ∧ w'.cell? ⟨gb430, 1, none⟩ = some (.slice A0_1 l0_1.length c0_1) ∧ w'.cell? ⟨gb431, 0, none⟩ = some (.int .i64 a1_0) ∧ w'.cell? ⟨gb431, 1, none⟩ = some (.slice A1_1 l1_1.length c1_1)) (ds := []) #[false, false, false, false, false, false, false, false, false, false, false] (by kernel_rfl) rfl rfl ⟨(blk_cell BK430.out 0).trans rfl, (blk_cell BK430.out 1).trans rfl, (blk_cell BK431.out 0).trans rfl, (blk_cell BK431.out 1).trans rfl⟩ (fun hHeld => ?_); refine with_tabW compasslaw09_EulerChecks.tab4 compasslaw09_EulerChecks.bits4 (fun HT_ HW_ => ?_)
  generalize w20.drew = w21 at BK430 BK431 HB hHeld ⊢
  refine pure_ (i := 1) (N := some 21) (v := ?_) (a' := ?_) #[false, true, false, false, false, false, false, false, false, false, false] rfl rfl (any_of HT_.out (by kernel_rfl)) (fun _ _ _ h => h) (Or.inl ⟨by rfl, ?_⟩) ?_ ?_; rotate_left; intro w'; go_simp; with_reducible rfl; rotate_left; simp only [Act.put, List.setIfInBounds_toArray, List.set_cons_zero, List.set_cons_succ, i64_w, i32_w]; rfl
  refine take_ (i := 0) (N := some 20) (v := ?_) (a' := ?_) #[true, true, false, false, false, false, false, false, false, false, false] rfl rfl (take_ofW HT_.out HW_.out (by kernel_rfl)) (fun _ _ _ h => h) (Or.inl ⟨by rfl, ?_⟩) hHeld ?_ ?_; rotate_left; rintro w' ⟨s0, s1, s2, s3⟩; go_simp; with_reducible rfl; rotate_left; simp only [Act.put, List.setIfInBounds_toArray, List.set_cons_zero, List.set_cons_succ, i64_w, i32_w]; rfl
  refine take_ (i := 2) (N := some 22) (v := ?_) (a' := ?_) #[true, true, true, false, false, false, false, false, false, false, false] rfl rfl (take_ofW HT_.out HW_.out (by kernel_rfl)) (fun _ _ _ h => h) (Or.inl ⟨by rfl, ?_⟩) hHeld ?_ ?_; rotate_left; rintro w' ⟨s0, s1, s2, s3⟩; go_simp; with_reducible rfl; rotate_left; simp only [Act.put, List.setIfInBounds_toArray, List.set_cons_zero, List.set_cons_succ, i64_w, i32_w]; rfl
  refine take_ (i := 3) (N := some 23) (v := ?_) (a' := ?_) #[true, true, true, true, false, false, false, false, false, false, false] rfl rfl (take_ofW HT_.out HW_.out (by kernel_rfl)) (fun _ _ _ h => h) (Or.inl ⟨by rfl, ?_⟩) hHeld ?_ ?_; rotate_left; rintro w' ⟨s0, s1, s2, s3⟩; go_simp; with_reducible rfl; rotate_left; simp only [Act.put, List.setIfInBounds_toArray, List.set_cons_zero, List.set_cons_succ, i64_w, i32_w]; rfl
  refine one_ (i := 4) (N := some 24) #[true, true, true, true, true, false, false, false, false, false, false] rfl rfl (one_of HT_.out (by kernel_rfl)) (by decide) (fun K hK => ?_)
  refine goes_ Try.func12 (by kernel_rfl) rfl #[.agg #[.int .i64 a1_0, .slice A1_1 l1_1.length c1_1]] (by rfl) rfl rfl (by (try simp only [List.map_toArray, List.map_cons, List.map_nil]); first | done | rfl | (simp only [List.length_drop, List.length_take]; rfl)) ?_
  with_reducible refine (compasslaw09_plain.calls k a1_0 _ _ l1_1 t435 _ ?side1 ?side2 A7.out).mono ?_
  (case side1 => repeat (first | exact (Kd.C_below HR1_1.out HB.out) | (with_reducible refine Kd.C_alloc ?_ _) | (with_reducible refine Kd.C_drewN ?_ _) | (with_reducible refine Kd.C_drew ?_)))
  (case side2 => exact HC1_1.out)
  rintro e w22 ⟨v436, rfl, ho0, hb⟩
  refine ⟨_, rfl, ?_⟩
  have n0_ := ak (Kd.R_lower ho0 (below_size lb))
  have n1_ := ak (blk_below (bx BK430.out) hb)
  have n2_ := ak (blk_below (bx BK431.out) hb)
  have n3_ := ak (below_step lb hb)
  clear BK430
  clear BK431
  clear HB
  have HO437 := n0_
  have BK430 := n1_
  have BK431 := n2_
  have HB := n3_
  clear n0_ n1_ n2_ n3_
  (try clear hb)
  (try clear hb2)
  (try clear hk)
  (try clear hi)
  (try clear ho0)
  obtain ⟨Ao23, co23, eo23⟩ := Kd.R_slice HO437.out
  (first | subst eo23 | (injection eo23 with f1_ f2_ f3_; have f4_ := f1_.symm; have f5_ := f3_.symm; clear f1_ f2_ f3_; subst f4_; subst f5_))
  refine hK.out _ _ ⟨(blk_cell BK430.out 0).trans rfl, (blk_cell BK430.out 1).trans rfl, (blk_cell BK431.out 0).trans rfl, (blk_cell BK431.out 1).trans rfl⟩ (fun hHeld => ?_)
  clear hK K
  refine norm_ (a' := ?_) ?_ ?_
  rotate_left
  ·
   show Act.put _ (some 24) _ = _
   simp only [Act.put, List.setIfInBounds_toArray, List.set_cons_zero, List.set_cons_succ, i64_w, i32_w]
   rfl
  refine one_ (i := 5) (N := some 25) #[true, true, true, true, true, true, false, false, false, false, false] rfl rfl (one_of HT_.out (by kernel_rfl)) (by decide) (fun K hK => ?_)
  refine goes_ Try.func14 (by kernel_rfl) rfl #[.agg #[.int .i64 a0_0, .slice A0_1 l0_1.length c0_1], .int .i64 a1_0, .slice Ao23 t435.length co23] (by rfl) rfl rfl (by (try simp only [List.map_toArray, List.map_cons, List.map_nil]); first | done | rfl | (simp only [List.length_drop, List.length_take]; rfl)) ?_
  with_reducible refine (compassref09_End.calls k a0_0 _ _ l0_1 a1_0 _ _ t435 t438 t439 _ ?side1 ?side2 ?side3 ?side4 A8.out).mono ?_
  (case side1 => repeat (first | exact (Kd.C_below HR0_1.out HB.out) | (with_reducible refine Kd.C_alloc ?_ _) | (with_reducible refine Kd.C_drewN ?_ _) | (with_reducible refine Kd.C_drew ?_)))
  (case side2 => exact HC0_1.out)
  (case side3 => repeat (first | exact (Kd.R_reads' HO437.out).2.2 | (with_reducible refine Kd.C_alloc ?_ _) | (with_reducible refine Kd.C_drewN ?_ _) | (with_reducible refine Kd.C_drew ?_)))
  (case side4 => exact (Kd.R_reads' HO437.out).2.1)
  rintro e w24 ⟨rfl, hb⟩
  refine ⟨_, rfl, ?_⟩
  have n0_ := ak (Kd.R_below (rx HO437.out) hb)
  have n1_ := ak (blk_below (bx BK430.out) hb)
  have n2_ := ak (blk_below (bx BK431.out) hb)
  have n3_ := ak (below_step lb hb)
  clear HO437
  clear BK430
  clear BK431
  clear HB
  have HO437 := n0_
  have BK430 := n1_
  have BK431 := n2_
  have HB := n3_
  clear n0_ n1_ n2_ n3_
  (try clear hb)
  (try clear hb2)
  (try clear hk)
  (try clear hi)
  refine hK.out _ _ ⟨(blk_cell BK430.out 0).trans rfl, (blk_cell BK430.out 1).trans rfl, (blk_cell BK431.out 0).trans rfl, (blk_cell BK431.out 1).trans rfl⟩ (fun hHeld => ?_)
  clear hK K
  refine norm_ (a' := ?_) ?_ ?_
  rotate_left
  ·
   show Act.put _ (some 25) _ = _
   simp only [Act.put, List.setIfInBounds_toArray, List.set_cons_zero, List.set_cons_succ, i64_w, i32_w]
   rfl
  refine pure_ (i := 6) (N := some 19) (v := ?_) (a' := ?_) #[true, true, true, true, true, true, true, false, false, false, false] rfl rfl (any_of HT_.out (by kernel_rfl)) (fun _ _ _ h => h) (Or.inl ⟨by rfl, ?_⟩) ?_ ?_; rotate_left; intro w'; go_simp; with_reducible rfl; rotate_left; simp only [Act.put, List.setIfInBounds_toArray, List.set_cons_zero, List.set_cons_succ, i64_w, i32_w]; rfl
  refine pure_ (i := 7) (N := some 26) (v := ?_) (a' := ?_) #[true, true, true, true, true, true, true, true, false, false, false] rfl rfl (any_of HT_.out (by kernel_rfl)) (fun _ _ _ h => h) (Or.inl ⟨by rfl, ?_⟩) ?_ ?_; rotate_left; intro w'; go_simp; with_reducible rfl; rotate_left; simp only [Act.put, List.setIfInBounds_toArray, List.set_cons_zero, List.set_cons_succ, i64_w, i32_w]; rfl
  refine pure_ (i := 8) (N := some 27) (v := ?_) (a' := ?_) #[true, true, true, true, true, true, true, true, true, false, false] rfl rfl (any_of HT_.out (by kernel_rfl)) (fun _ _ _ h => h) (Or.inl ⟨by rfl, ?_⟩) ?_ ?_; rotate_left; intro w'; go_simp; with_reducible rfl; rotate_left; simp only [Act.put, List.setIfInBounds_toArray, List.set_cons_zero, List.set_cons_succ, i64_w, i32_w]; rfl
  refine pure_ (i := 9) (N := some 9) (v := ?_) (a' := ?_) #[true, true, true, true, true, true, true, true, true, true, false] rfl rfl (any_of HT_.out (by kernel_rfl)) (fun _ _ _ h => h) (Or.inl ⟨by rfl, ?_⟩) ?_ ?_; rotate_left; intro w'; go_simp; with_reducible rfl; rotate_left; simp only [Act.put, List.setIfInBounds_toArray, List.set_cons_zero, List.set_cons_succ, i64_w, i32_w]; rfl
  refine pure_ (i := 10) (N := some 10) (v := ?_) (a' := ?_) #[true, true, true, true, true, true, true, true, true, true, true] rfl rfl (any_of HT_.out (by kernel_rfl)) (fun _ _ _ h => h) (Or.inl ⟨by rfl, ?_⟩) ?_ ?_; rotate_left; intro w'; go_simp; with_reducible rfl; rotate_left; simp only [Act.put, List.setIfInBounds_toArray, List.set_cons_zero, List.set_cons_succ, i64_w, i32_w]; rfl
  refine done_ (done_of HT_.out (by kernel_rfl)) ?_
  try go_wp2
  have n0_ := ak (Kd.R_drew HO437.out)
  have n1_ := ak (blk_drew BK430.out)
  have n2_ := ak (blk_drew BK431.out)
  have n3_ := ak (below_drew1 HB.out)
  clear HO437
  clear BK430
  clear BK431
  clear HB
  have HO437 := n0_
  have BK430 := n1_
  have BK431 := n2_
  have HB := n3_
  clear n0_ n1_ n2_ n3_
  refine start_ (n := 23) (S := fun w' => w'.cell? ⟨gb430, 0, none⟩ = some (.int .i64 a0_0) ∧ w'.cell? ⟨gb430, 1, none⟩ = some (.slice A0_1 l0_1.length c0_1) ∧ w'.cell? ⟨gb431, 0, none⟩ = some (.int .i64 a1_0) ∧ w'.cell? ⟨gb431, 1, none⟩ = some (.slice A1_1 l1_1.length c1_1)) (ds := []) #[false, false, false, false, false, false, false, false, false, false, false, false, false, false, false, false, false, false, false, false, false, false, false] (by kernel_rfl) rfl rfl ⟨(blk_cell BK430.out 0).trans rfl, (blk_cell BK430.out 1).trans rfl, (blk_cell BK431.out 0).trans rfl, (blk_cell BK431.out 1).trans rfl⟩ (fun hHeld => ?_); refine with_tabW compasslaw09_EulerChecks.tab5 compasslaw09_EulerChecks.bits5 (fun HT_ HW_ => ?_)
  generalize w24.drew = w25 at HO437 BK430 BK431 HB hHeld ⊢
  refine pure_ (i := 0) (N := some 28) (v := ?_) (a' := ?_) #[true, false, false, false, false, false, false, false, false, false, false, false, false, false, false, false, false, false, false, false, false, false, false] rfl rfl (any_of HT_.out (by kernel_rfl)) (fun _ _ _ h => h) (Or.inl ⟨by rfl, ?_⟩) ?_ ?_; rotate_left; intro w'; go_simp; with_reducible rfl; rotate_left; simp only [Act.put, List.setIfInBounds_toArray, List.set_cons_zero, List.set_cons_succ, i64_w, i32_w]; rfl
  refine pure_ (i := 1) (N := some 29) (v := ?_) (a' := ?_) #[true, true, false, false, false, false, false, false, false, false, false, false, false, false, false, false, false, false, false, false, false, false, false] rfl rfl (any_of HT_.out (by kernel_rfl)) (fun _ _ _ h => h) (Or.inl ⟨by rfl, ?_⟩) ?_ ?_; rotate_left; intro w'; go_simp; with_reducible rfl; rotate_left; simp only [Act.put, List.setIfInBounds_toArray, List.set_cons_zero, List.set_cons_succ, i64_w, i32_w]; rfl
  refine pure_ (i := 2) (N := some 30) (v := ?_) (a' := ?_) #[true, true, true, false, false, false, false, false, false, false, false, false, false, false, false, false, false, false, false, false, false, false, false] rfl rfl (any_of HT_.out (by kernel_rfl)) (fun _ _ _ h => h) (Or.inl ⟨by rfl, ?_⟩) ?_ ?_; rotate_left; intro w'; go_simp; with_reducible rfl; rotate_left; simp only [Act.put, List.setIfInBounds_toArray, List.set_cons_zero, List.set_cons_succ, i64_w, i32_w]; rfl
  refine pure_ (i := 3) (N := some 31) (v := ?_) (a' := ?_) #[true, true, true, true, false, false, false, false, false, false, false, false, false, false, false, false, false, false, false, false, false, false, false] rfl rfl (any_of HT_.out (by kernel_rfl)) (fun _ _ _ h => h) (Or.inl ⟨by rfl, ?_⟩) ?_ ?_; rotate_left; intro w'; go_simp; with_reducible rfl; rotate_left; simp only [Act.put, List.setIfInBounds_toArray, List.set_cons_zero, List.set_cons_succ, i64_w, i32_w]; rfl
  refine pure_ (i := 4) (N := some 32) (v := ?_) (a' := ?_) #[true, true, true, true, true, false, false, false, false, false, false, false, false, false, false, false, false, false, false, false, false, false, false] rfl rfl (any_of HT_.out (by kernel_rfl)) (fun _ _ _ h => h) (Or.inl ⟨by rfl, ?_⟩) ?_ ?_; rotate_left; intro w'; go_simp; with_reducible rfl; rotate_left; simp only [Act.put, List.setIfInBounds_toArray, List.set_cons_zero, List.set_cons_succ, i64_w, i32_w]; rfl
  refine pure_ (i := 5) (N := some 33) (v := ?_) (a' := ?_) #[true, true, true, true, true, true, false, false, false, false, false, false, false, false, false, false, false, false, false, false, false, false, false] rfl rfl (any_of HT_.out (by kernel_rfl)) (fun _ _ _ h => h) (Or.inl ⟨by rfl, ?_⟩) ?_ ?_; rotate_left; intro w'; go_simp; with_reducible rfl; rotate_left; simp only [Act.put, List.setIfInBounds_toArray, List.set_cons_zero, List.set_cons_succ, i64_w, i32_w]; rfl
  refine pure_ (i := 6) (N := some 34) (v := ?_) (a' := ?_) #[true, true, true, true, true, true, true, false, false, false, false, false, false, false, false, false, false, false, false, false, false, false, false] rfl rfl (any_of HT_.out (by kernel_rfl)) (fun _ _ _ h => h) (Or.inl ⟨by rfl, ?_⟩) ?_ ?_; rotate_left; intro w'; go_simp; with_reducible rfl; rotate_left; simp only [Act.put, List.setIfInBounds_toArray, List.set_cons_zero, List.set_cons_succ, i64_w, i32_w]; rfl
  refine pure_ (i := 7) (N := some 35) (v := ?_) (a' := ?_) #[true, true, true, true, true, true, true, true, false, false, false, false, false, false, false, false, false, false, false, false, false, false, false] rfl rfl (any_of HT_.out (by kernel_rfl)) (fun _ _ _ h => h) (Or.inl ⟨by rfl, ?_⟩) ?_ ?_; rotate_left; intro w'; go_simp; with_reducible rfl; rotate_left; simp only [Act.put, List.setIfInBounds_toArray, List.set_cons_zero, List.set_cons_succ, i64_w, i32_w]; rfl
  refine pure_ (i := 8) (N := some 36) (v := ?_) (a' := ?_) #[true, true, true, true, true, true, true, true, true, false, false, false, false, false, false, false, false, false, false, false, false, false, false] rfl rfl (any_of HT_.out (by kernel_rfl)) (fun _ _ _ h => h) (Or.inl ⟨by rfl, ?_⟩) ?_ ?_; rotate_left; intro w'; go_simp; with_reducible rfl; rotate_left; simp only [Act.put, List.setIfInBounds_toArray, List.set_cons_zero, List.set_cons_succ, i64_w, i32_w]; rfl
  refine pure_ (i := 11) (N := some 39) (v := ?_) (a' := ?_) #[true, true, true, true, true, true, true, true, true, false, false, true, false, false, false, false, false, false, false, false, false, false, false] rfl rfl (any_of HT_.out (by kernel_rfl)) (fun _ _ _ h => h) (Or.inl ⟨by rfl, ?_⟩) ?_ ?_; rotate_left; intro w'; go_simp; with_reducible rfl; rotate_left; simp only [Act.put, List.setIfInBounds_toArray, List.set_cons_zero, List.set_cons_succ, i64_w, i32_w]; rfl
  refine pure_ (i := 14) (N := some 42) (v := ?_) (a' := ?_) #[true, true, true, true, true, true, true, true, true, false, false, true, false, false, true, false, false, false, false, false, false, false, false] rfl rfl (any_of HT_.out (by kernel_rfl)) (fun _ _ _ h => h) (Or.inl ⟨by rfl, ?_⟩) ?_ ?_; rotate_left; intro w'; go_simp; with_reducible rfl; rotate_left; simp only [Act.put, List.setIfInBounds_toArray, List.set_cons_zero, List.set_cons_succ, i64_w, i32_w]; rfl
  refine pure_ (i := 18) (N := some 46) (v := ?_) (a' := ?_) #[true, true, true, true, true, true, true, true, true, false, false, true, false, false, true, false, false, false, true, false, false, false, false] rfl rfl (any_of HT_.out (by kernel_rfl)) (fun _ _ _ h => h) (Or.inl ⟨by rfl, ?_⟩) ?_ ?_; rotate_left; intro w'; go_simp; with_reducible rfl; rotate_left; simp only [Act.put, List.setIfInBounds_toArray, List.set_cons_zero, List.set_cons_succ, i64_w, i32_w]; rfl
  refine take_ (i := 9) (N := some 37) (v := ?_) (a' := ?_) #[true, true, true, true, true, true, true, true, true, true, false, true, false, false, true, false, false, false, true, false, false, false, false] rfl rfl (take_ofW HT_.out HW_.out (by kernel_rfl)) (fun _ _ _ h => h) (Or.inl ⟨by rfl, ?_⟩) hHeld ?_ ?_; rotate_left; rintro w' ⟨s0, s1, s2, s3⟩; go_simp; with_reducible rfl; rotate_left; simp only [Act.put, List.setIfInBounds_toArray, List.set_cons_zero, List.set_cons_succ, i64_w, i32_w]; rfl
  refine take_ (i := 10) (N := some 38) (v := ?_) (a' := ?_) #[true, true, true, true, true, true, true, true, true, true, true, true, false, false, true, false, false, false, true, false, false, false, false] rfl rfl (take_ofW HT_.out HW_.out (by kernel_rfl)) (fun _ _ _ h => h) (Or.inl ⟨by rfl, ?_⟩) hHeld ?_ ?_; rotate_left; rintro w' ⟨s0, s1, s2, s3⟩; go_simp; with_reducible rfl; rotate_left; simp only [Act.put, List.setIfInBounds_toArray, List.set_cons_zero, List.set_cons_succ, i64_w, i32_w]; rfl
  refine take_ (i := 13) (N := some 41) (v := ?_) (a' := ?_) #[true, true, true, true, true, true, true, true, true, true, true, true, false, true, true, false, false, false, true, false, false, false, false] rfl rfl (take_ofW HT_.out HW_.out (by kernel_rfl)) (fun _ _ _ h => h) (Or.inl ⟨by rfl, ?_⟩) hHeld ?_ ?_; rotate_left; rintro w' ⟨s0, s1, s2, s3⟩; go_simp; with_reducible rfl; rotate_left; simp only [Act.put, List.setIfInBounds_toArray, List.set_cons_zero, List.set_cons_succ, i64_w, i32_w]; rfl
  refine take_ (i := 15) (N := some 43) (v := ?_) (a' := ?_) #[true, true, true, true, true, true, true, true, true, true, true, true, false, true, true, true, false, false, true, false, false, false, false] rfl rfl (take_ofW HT_.out HW_.out (by kernel_rfl)) (fun _ _ _ h => h) (Or.inl ⟨by rfl, ?_⟩) hHeld ?_ ?_; rotate_left; rintro w' ⟨s0, s1, s2, s3⟩; go_simp; with_reducible rfl; rotate_left; simp only [Act.put, List.setIfInBounds_toArray, List.set_cons_zero, List.set_cons_succ, i64_w, i32_w]; rfl
  refine take_ (i := 16) (N := some 44) (v := ?_) (a' := ?_) #[true, true, true, true, true, true, true, true, true, true, true, true, false, true, true, true, true, false, true, false, false, false, false] rfl rfl (take_ofW HT_.out HW_.out (by kernel_rfl)) (fun _ _ _ h => h) (Or.inl ⟨by rfl, ?_⟩) hHeld ?_ ?_; rotate_left; rintro w' ⟨s0, s1, s2, s3⟩; go_simp; with_reducible rfl; rotate_left; simp only [Act.put, List.setIfInBounds_toArray, List.set_cons_zero, List.set_cons_succ, i64_w, i32_w]; rfl
  refine one_ (i := 12) (N := some 40) #[true, true, true, true, true, true, true, true, true, true, true, true, true, true, true, true, true, false, true, false, false, false, false] rfl rfl (one_of HT_.out (by kernel_rfl)) (by decide) (fun K hK => ?_)
  refine goes_ Try.func15 (by kernel_rfl) rfl #[.agg #[.int .i64 a0_0, .slice A0_1 l0_1.length c0_1], .agg #[.int .i64 a1_0, .slice A1_1 l1_1.length c1_1], .bool a2] (by rfl) rfl rfl (by (try simp only [List.map_toArray, List.map_cons, List.map_nil]); first | done | rfl | (simp only [List.length_drop, List.length_take]; rfl)) ?_
  with_reducible refine (euler_Covers.calls k a0_0 _ _ l0_1 a1_0 _ _ l1_1 a2 t440 _ ?side1 ?side2 ?side3 ?side4 A11.out).mono ?_
  (case side1 => repeat (first | exact (Kd.C_below HR0_1.out HB.out) | (with_reducible refine Kd.C_alloc ?_ _) | (with_reducible refine Kd.C_drewN ?_ _) | (with_reducible refine Kd.C_drew ?_)))
  (case side2 => exact HC0_1.out)
  (case side3 => repeat (first | exact (Kd.C_below HR1_1.out HB.out) | (with_reducible refine Kd.C_alloc ?_ _) | (with_reducible refine Kd.C_drewN ?_ _) | (with_reducible refine Kd.C_drew ?_)))
  (case side4 => exact HC1_1.out)
  rintro e w26 ⟨rfl, hb⟩
  refine ⟨_, rfl, ?_⟩
  have n0_ := ak (Kd.R_below (rx HO437.out) hb)
  have n1_ := ak (blk_below (bx BK430.out) hb)
  have n2_ := ak (blk_below (bx BK431.out) hb)
  have n3_ := ak (below_step lb hb)
  clear HO437
  clear BK430
  clear BK431
  clear HB
  have HO437 := n0_
  have BK430 := n1_
  have BK431 := n2_
  have HB := n3_
  clear n0_ n1_ n2_ n3_
  (try clear hb)
  (try clear hb2)
  (try clear hk)
  (try clear hi)
  refine hK.out _ _ ⟨(blk_cell BK430.out 0).trans rfl, (blk_cell BK430.out 1).trans rfl, (blk_cell BK431.out 0).trans rfl, (blk_cell BK431.out 1).trans rfl⟩ (fun hHeld => ?_)
  clear hK K
  refine norm_ (a' := ?_) ?_ ?_
  rotate_left
  ·
   show Act.put _ (some 40) _ = _
   simp only [Act.put, List.setIfInBounds_toArray, List.set_cons_zero, List.set_cons_succ, i64_w, i32_w]
   rfl
  refine one_ (i := 17) (N := some 45) #[true, true, true, true, true, true, true, true, true, true, true, true, true, true, true, true, true, true, true, false, false, false, false] rfl rfl (one_of HT_.out (by kernel_rfl)) (by decide) (fun K hK => ?_)
  refine goes_ Try.func12 (by kernel_rfl) rfl #[.agg #[.int .i64 a1_0, .slice A1_1 l1_1.length c1_1]] (by rfl) rfl rfl (by (try simp only [List.map_toArray, List.map_cons, List.map_nil]); first | done | rfl | (simp only [List.length_drop, List.length_take]; rfl)) ?_
  with_reducible refine (compasslaw09_plain.calls k a1_0 _ _ l1_1 t441 _ ?side1 ?side2 A12.out).mono ?_
  (case side1 => repeat (first | exact (Kd.C_below HR1_1.out HB.out) | (with_reducible refine Kd.C_alloc ?_ _) | (with_reducible refine Kd.C_drewN ?_ _) | (with_reducible refine Kd.C_drew ?_)))
  (case side2 => exact HC1_1.out)
  rintro e w27 ⟨v442, rfl, ho0, hb⟩
  refine ⟨_, rfl, ?_⟩
  have n0_ := ak (Kd.R_elder' (rx HO437.out) (Kd.R_base ho0) hb)
  have n1_ := ak (Kd.R_lower (Kd.R_new' ho0 (Kd.R_lt (rx HO437.out))) (below_size lb))
  have n2_ := ak (blk_below (bx BK430.out) hb)
  have n3_ := ak (blk_below (bx BK431.out) hb)
  have n4_ := ak (below_step lb hb)
  clear HO437
  clear BK430
  clear BK431
  clear HB
  have HO437 := n0_
  have HO443 := n1_
  have BK430 := n2_
  have BK431 := n3_
  have HB := n4_
  clear n0_ n1_ n2_ n3_ n4_
  (try clear hb)
  (try clear hb2)
  (try clear hk)
  (try clear hi)
  (try clear ho0)
  obtain ⟨Ao28, co28, eo28⟩ := Kd.R_slice HO443.out
  (first | subst eo28 | (injection eo28 with f1_ f2_ f3_; have f4_ := f1_.symm; have f5_ := f3_.symm; clear f1_ f2_ f3_; subst f4_; subst f5_))
  refine hK.out _ _ ⟨(blk_cell BK430.out 0).trans rfl, (blk_cell BK430.out 1).trans rfl, (blk_cell BK431.out 0).trans rfl, (blk_cell BK431.out 1).trans rfl⟩ (fun hHeld => ?_)
  clear hK K
  refine norm_ (a' := ?_) ?_ ?_
  rotate_left
  ·
   show Act.put _ (some 45) _ = _
   simp only [Act.put, List.setIfInBounds_toArray, List.set_cons_zero, List.set_cons_succ, i64_w, i32_w]
   rfl
  refine one_ (i := 19) (N := some 47) #[true, true, true, true, true, true, true, true, true, true, true, true, true, true, true, true, true, true, true, true, false, false, false] rfl rfl (one_of HT_.out (by kernel_rfl)) (by decide) (fun K hK => ?_)
  refine goes_ Try.func11 (by kernel_rfl) rfl #[.agg #[.int .i64 a0_0, .slice A0_1 l0_1.length c0_1], .int .i64 a1_0, .slice Ao28 t441.length co28, .bool a2] (by rfl) rfl rfl (by (try simp only [List.map_toArray, List.map_cons, List.map_nil]); first | done | rfl | (simp only [List.length_drop, List.length_take]; rfl)) ?_
  with_reducible refine (compassref09_Covers.calls k a0_0 _ _ l0_1 a1_0 _ _ t441 a2 t444 _ ?side1 ?side2 ?side3 ?side4 A13.out).mono ?_
  (case side1 => repeat (first | exact (Kd.C_below HR0_1.out HB.out) | (with_reducible refine Kd.C_alloc ?_ _) | (with_reducible refine Kd.C_drewN ?_ _) | (with_reducible refine Kd.C_drew ?_)))
  (case side2 => exact HC0_1.out)
  (case side3 => repeat (first | exact (Kd.R_reads' HO443.out).2.2 | (with_reducible refine Kd.C_alloc ?_ _) | (with_reducible refine Kd.C_drewN ?_ _) | (with_reducible refine Kd.C_drew ?_)))
  (case side4 => exact (Kd.R_reads' HO443.out).2.1)
  rintro e w29 ⟨rfl, hb⟩
  refine ⟨_, rfl, ?_⟩
  have n0_ := ak (Kd.R_below (rx HO437.out) hb)
  have n1_ := ak (Kd.R_below (rx HO443.out) hb)
  have n2_ := ak (blk_below (bx BK430.out) hb)
  have n3_ := ak (blk_below (bx BK431.out) hb)
  have n4_ := ak (below_step lb hb)
  clear HO437
  clear HO443
  clear BK430
  clear BK431
  clear HB
  have HO437 := n0_
  have HO443 := n1_
  have BK430 := n2_
  have BK431 := n3_
  have HB := n4_
  clear n0_ n1_ n2_ n3_ n4_
  (try clear hb)
  (try clear hb2)
  (try clear hk)
  (try clear hi)
  refine hK.out _ _ ⟨(blk_cell BK430.out 0).trans rfl, (blk_cell BK430.out 1).trans rfl, (blk_cell BK431.out 0).trans rfl, (blk_cell BK431.out 1).trans rfl⟩ (fun hHeld => ?_)
  clear hK K
  refine norm_ (a' := ?_) ?_ ?_
  rotate_left
  ·
   show Act.put _ (some 47) _ = _
   simp only [Act.put, List.setIfInBounds_toArray, List.set_cons_zero, List.set_cons_succ, i64_w, i32_w]
   rfl
  refine pure_ (i := 20) (N := some 48) (v := ?_) (a' := ?_) #[true, true, true, true, true, true, true, true, true, true, true, true, true, true, true, true, true, true, true, true, true, false, false] rfl rfl (any_of HT_.out (by kernel_rfl)) (fun _ _ _ h => h) (Or.inl ⟨by rfl, ?_⟩) ?_ ?_; rotate_left; intro w'; go_simp; with_reducible rfl; rotate_left; simp only [Act.put, List.setIfInBounds_toArray, List.set_cons_zero, List.set_cons_succ, i64_w, i32_w]; rfl
  refine pure_ (i := 21) (N := some 49) (v := ?_) (a' := ?_) #[true, true, true, true, true, true, true, true, true, true, true, true, true, true, true, true, true, true, true, true, true, true, false] rfl rfl (any_of HT_.out (by kernel_rfl)) (fun _ _ _ h => h) (Or.inl ⟨by rfl, ?_⟩) ?_ ?_; rotate_left; intro w'; go_simp; with_reducible rfl; rotate_left; simp only [Act.put, List.setIfInBounds_toArray, List.set_cons_zero, List.set_cons_succ, i64_w, i32_w]; rfl
  refine pure_ (i := 22) (N := some 6) (v := ?_) (a' := ?_) #[true, true, true, true, true, true, true, true, true, true, true, true, true, true, true, true, true, true, true, true, true, true, true] rfl rfl (any_of HT_.out (by kernel_rfl)) (fun _ _ _ h => h) (Or.inl ⟨by rfl, ?_⟩) ?_ ?_; rotate_left; intro w'; go_simp; with_reducible rfl; rotate_left; simp only [Act.put, List.setIfInBounds_toArray, List.set_cons_zero, List.set_cons_succ, i64_w, i32_w]; rfl
  refine done_ (done_of HT_.out (by kernel_rfl)) ?_
  try go_wp2
  go_ret
  exact ⟨by first | rfl | (simp [errW_none, errW_some] <;> rfl) | (simp [*, errW_none, errW_some] <;> rfl), lb⟩
 ·
  replace c5 := Bool.eq_false_iff.mpr c5
  subst c5
  have H1 : (some false) = some r := by rw [if_neg (show ¬ (false = true) by decide)] at H; exact H
  clear H
  have H := H1
  clear H1
  exact absurd ((Option.some.inj H).trans HR_.out) (by decide)

end Go.Proofs.Ytplbkggdnonfbaa.Q
