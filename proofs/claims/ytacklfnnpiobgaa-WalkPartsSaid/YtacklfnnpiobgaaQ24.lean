-- PRINTED by print.py (a twelfth state) out of the translation. Not trusted: Lean checks it.
import Derived.Test.YtacklfnnpiobgaaQ0
import Derived.Test.YtacklfnnpiobgaaQ9
import Derived.Test.YtacklfnnpiobgaaQ17
import Derived.Test.YtacklfnnpiobgaaQ18
import Derived.Test.YtacklfnnpiobgaaQ20
import Derived.Test.YtacklfnnpiobgaaQ23
namespace Go.Proofs.Ytacklfnnpiobgaa.Q
open Go.RowKit Go.Proofs.YtacklfnnpiobgaaW.PrintWords Go.Proofs.YtacklfnnpiobgaaW.PrintLast Go.Proofs.YtacklfnnpiobgaaW.PrintMore
attribute [local go_sem] max2_int min2_int max_two min_two max_three min_three max_four min_four   -- for this text's walks alone
set_option linter.unusedVariables false
set_option linter.unusedSimpArgs false

/-! ### compasslaw04_WalkParts: function 9 -/
def compasslaw04_WalkParts.j0 : Nat → Bool → Int → List (S41) → Option (Bool)
  | 0, _, _, _ => none
  | k + 1, x25, x486000, x486001 => if x25 = true then (some false) else ((walk_Parts.f k x486000 x486001).bind fun bt498 => ((compassref04_Parts.f k x486000 x486001).bind fun bt502 => ((walk_Strong.f k x486000 x486001).bind fun bt506 => ((compassref04_Strong.f k x486000 x486001).bind fun bt510 => ((compasslaw04_ints.f k bt498.1 bt502.1).bind fun t514 => (if t514 = true then (if bt498.2 = bt502.2 then ((compasslaw04_ints.f k bt506.1 bt510.1).bind fun t515 => (if t515 = true then (some (bt506.2 == bt510.2)) else (some false))) else (some false)) else (some false)))))))
def compasslaw04_WalkParts.f (k : Nat) (a0_0 : Int) (l0_1 : List (S41)) : Option (Bool) := (compasslaw04_line.f).bind fun bt486 => ((walk_Strong.f k bt486.1 bt486.2).bind fun bt490 => (if bt490.2 = 0 then ((compasslaw04_ints.f k bt490.1 (([0, 1, 2] : List Int))).bind fun t497 => (compasslaw04_WalkParts.j0 k (!t497) a0_0 l0_1)) else (compasslaw04_WalkParts.j0 k true a0_0 l0_1)))
theorem compasslaw04_WalkParts.mono_l : ∀ k, (∀ y0 y1 y2, LeO (compasslaw04_WalkParts.j0 k y0 y1 y2) (compasslaw04_WalkParts.j0 (k + 1) y0 y1 y2))
  | 0 => fun _ _ _ r h => by simp [compasslaw04_WalkParts.j0] at h
  | k + 1 => by
    have ih0 := compasslaw04_WalkParts.mono_l k
    · intro y0 y1 y2
      unfold compasslaw04_WalkParts.j0
      repeat' first
      | (with_reducible exact ih0 _ _ _)
      | (with_reducible exact compasslaw04_ints.mono _ _ _)
      | (with_reducible exact compassref04_Parts.mono _ _ _)
      | (with_reducible exact compassref04_Strong.mono _ _ _)
      | (with_reducible exact walk_Parts.mono _ _ _)
      | (with_reducible exact walk_Strong.mono _ _ _)
      | (with_reducible exact LeO.refl _)
      | (with_reducible exact LeO.none _)
      | (with_reducible refine LeO.ite ?_ ?_)
      | (with_reducible refine LeO.bind ?_ (fun _ => ?_))
      | exact ih0 _ _ _
      | exact compasslaw04_ints.mono _ _ _
      | exact compassref04_Parts.mono _ _ _
      | exact compassref04_Strong.mono _ _ _
      | exact walk_Parts.mono _ _ _
      | exact walk_Strong.mono _ _ _
      | exact LeO.none _
      | refine LeO.ite ?_ ?_
      | refine LeO.bind ?_ (fun _ => ?_)
theorem compasslaw04_WalkParts.mono : ∀ a0 a1 k, LeO (compasslaw04_WalkParts.f k a0 a1) (compasslaw04_WalkParts.f (k + 1) a0 a1) := by
  intro a0 a1 k
  have ih0 := compasslaw04_WalkParts.mono_l k
  unfold compasslaw04_WalkParts.f
  repeat' first
      | (with_reducible exact ih0 _ _ _)
      | (with_reducible exact compasslaw04_ints.mono _ _ _)
      | (with_reducible exact compassref04_Parts.mono _ _ _)
      | (with_reducible exact compassref04_Strong.mono _ _ _)
      | (with_reducible exact walk_Parts.mono _ _ _)
      | (with_reducible exact walk_Strong.mono _ _ _)
      | (with_reducible exact LeO.refl _)
      | (with_reducible exact LeO.none _)
      | (with_reducible refine LeO.ite ?_ ?_)
      | (with_reducible refine LeO.bind ?_ (fun _ => ?_))
      | exact ih0 _ _ _
      | exact compasslaw04_ints.mono _ _ _
      | exact compassref04_Parts.mono _ _ _
      | exact compassref04_Strong.mono _ _ _
      | exact walk_Parts.mono _ _ _
      | exact walk_Strong.mono _ _ _
      | exact LeO.none _
      | refine LeO.ite ?_ ?_
      | refine LeO.bind ?_ (fun _ => ?_)
set_option maxHeartbeats 8000000 in
set_option maxRecDepth 100000 in
theorem compasslaw04_WalkParts.calls (k : Nat) (a0_0 : Int) (A0_1 : Option Addr) (c0_1 : Nat) (l0_1 : List (S41)) (r : Bool) (w : World) (hr0_1 : Kd.C k41 w A0_1 l0_1.length l0_1) (hc0_1 : l0_1.length ≤ c0_1) (hr_ : r = true) (h : compasslaw04_WalkParts.f k a0_0 l0_1 = some r) :
    Calls Try.prog 9 #[.agg #[.int .i64 a0_0, .slice A0_1 l0_1.length c0_1]] w fun e w' => e = .returned (.bool r) ∧ Below w.heap.size w w' := by
 have hu24 := Try.underlying24
 have HR0_1 := ak hr0_1
 have HC0_1 := ak hc0_1
 clear hr0_1 hc0_1
 have HB := ak (Below.refl w.heap.size w)
 have HR_ := ak hr_
 clear hr_
 have H : ((compasslaw04_line.f).bind fun bt486 => ((walk_Strong.f k bt486.1 bt486.2).bind fun bt490 => (if bt490.2 = 0 then ((compasslaw04_ints.f k bt490.1 (([0, 1, 2] : List Int))).bind fun t497 => (compasslaw04_WalkParts.j0 k (!t497) a0_0 l0_1)) else (compasslaw04_WalkParts.j0 k true a0_0 l0_1)))) = some r := h
 clear h
 replace H := Option.bind_eq_some_iff.mp H
 obtain ⟨⟨t486, t487⟩, A20, H⟩ := H
 replace H : ((walk_Strong.f k t486 t487).bind fun bt490 => (if bt490.2 = 0 then ((compasslaw04_ints.f k bt490.1 (([0, 1, 2] : List Int))).bind fun t497 => (compasslaw04_WalkParts.j0 k (!t497) a0_0 l0_1)) else (compasslaw04_WalkParts.j0 k true a0_0 l0_1))) = some r := H
 have A2 := ak A20
 clear A20
 replace H := Option.bind_eq_some_iff.mp H
 obtain ⟨⟨t490, t493⟩, A30, H⟩ := H
 replace H : (if t493 = 0 then ((compasslaw04_ints.f k t490 (([0, 1, 2] : List Int))).bind fun t497 => (compasslaw04_WalkParts.j0 k (!t497) a0_0 l0_1)) else (compasslaw04_WalkParts.j0 k true a0_0 l0_1)) = some r := H
 have A3 := ak A30
 clear A30
 have HC4 := ak H
 clear H
 go_enter Try.func9, Try.ntmps9
 go_upto_region 2 with (first | ((with_reducible refine gate_dst (N := 1) rfl ?_); (try (refine gate_guard (by rfl) ?_; dsimp only)); refine box_event ?hg (N := 1) ?hd (cs := #[.int .i64 a0_0, .slice A0_1 l0_1.length c0_1]) (t := 24) ?hr ?_; (case hd => rfl); (case hg => rfl); (case hr => first | (go_simp; done) | (go_simp; rfl)); intro gb485 hg w5 hbox hb; have n0_ := ak (below_step lb hb); have n1_ := ak (hbox); have n2_ := ak ((by rw [hg]; exact (below_size lb) : w.heap.size ≤ gb485)); have n3_ := ak ((by rw [hg]; exact (below_size lb) : w.heap.size ≤ gb485)); clear HB; have HB := n0_; have BK485 := n1_; have GW485 := n2_; have GE485 := n3_; clear n0_ n1_ n2_ n3_; clear hb hbox hg) | ((with_reducible refine gate_callee (f := 22) rfl ?_); refine goesL_ (some 14) rfl rfl Try.func22 (by kernel_rfl) rfl #[] rfl (by (try simp only [List.map_toArray, List.map_cons, List.map_nil]); first | done | rfl | (simp only [List.length_drop, List.length_take]; rfl)) ?_; (with_reducible refine (compasslaw04_line.calls  t486 t487 _ A2.out).mono ?_); rintro e w6 ⟨v488, rfl, ho0, hb⟩; refine ⟨_, rfl, ?_⟩; have n0_ := ak (Kd.R_lower ho0 (below_size lb)); have n1_ := ak (blk_below (bx BK485.out) hb); have n2_ := ak (below_step lb hb); clear BK485; clear HB; have HO489 := n0_; have BK485 := n1_; have HB := n2_; clear n0_ n1_ n2_; (try clear hb); (try clear hb2); (try clear hk); (try clear hi); (try clear ho0); obtain ⟨Ao7, co7, eo7⟩ := Kd.R_slice HO489.out; subst eo7) | ((with_reducible refine gate_callee (f := 21) rfl ?_); refine goesL_ (some 15) rfl rfl Try.func21 (by kernel_rfl) rfl #[.agg #[.int .i64 t486, .slice Ao7 t487.length co7]] rfl (by (try simp only [List.map_toArray, List.map_cons, List.map_nil]); first | done | rfl | (simp only [List.length_drop, List.length_take]; rfl)) ?_; (with_reducible refine (walk_Strong.calls k t486 _ _ t487 t490 t493 _ ?side1 ?side2 A3.out).mono ?_); (case side1 => repeat (first | exact (Kd.R_reads' HO489.out).2.2 | (with_reducible refine Kd.C_alloc ?_ _) | (with_reducible refine Kd.C_drewN ?_ _) | (with_reducible refine Kd.C_drew ?_))); (case side2 => exact (Kd.R_reads' HO489.out).2.1); rintro e w8 ⟨v491, rfl, ho0, hb⟩; refine ⟨_, rfl, ?_⟩; have n0_ := ak (Kd.R_below (rx HO489.out) hb); have n1_ := ak (Kd.R_lower ho0 (below_size lb)); have n2_ := ak (blk_below (bx BK485.out) hb); have n3_ := ak (below_step lb hb); clear HO489; clear BK485; clear HB; have HO489 := n0_; have HO492 := n1_; have BK485 := n2_; have HB := n3_; clear n0_ n1_ n2_ n3_; (try clear hb); (try clear hb2); (try clear hk); (try clear hi); (try clear ho0)))
 (try simp only [Act.put, List.setIfInBounds_toArray, List.set_cons_zero, List.set_cons_succ])
 go_cut [25] (fun v25 wc => ∃ (kq : Nat) (x25_3 : Bool), v25 = .bool x25_3 ∧ Aside0 (compasslaw04_WalkParts.j0 kq x25_3 a0_0 l0_1 = some r) ∧ Aside0 (kq ≤ k) ∧ Aside0 (wc.heap[gb485]? = some (.cells #[.int .i64 a0_0, (.slice A0_1 l0_1.length c0_1)] 24 (0, 0))) ∧ Aside0 (Below w.heap.size w wc))
 case first =>
  have H := HC4.out
  clear HC4
  by_cases c9 : t493 = 0
  ·
   rw [if_pos c9] at H
   have c9b0 : (t493 == 0) = true := beq_iff_eq.mpr c9
   have c9b1 : (t493 != 0) = false := bne_eq_false_iff_eq.mpr c9
   clear c9
   (first | rw [c9b0] | (simp only [i64_w, i32_w]; rw [c9b0]) | skip)
   obtain ⟨y494, hy494⟩ : ∃ y_ : List Int, y_ = (([0, 1, 2] : List Int)) := ⟨_, rfl⟩
   replace H : ((compasslaw04_ints.f k t490 y494).bind fun t497 => (compasslaw04_WalkParts.j0 k (!t497) a0_0 l0_1)) = some r := by first | (rw [hy494]; exact H) | exact H
   have Ny494 := ak hy494
   clear hy494
   replace H := Option.bind_eq_some_iff.mp H
   obtain ⟨t497, A100, H⟩ := H
   replace H : (compasslaw04_WalkParts.j0 k (!t497) a0_0 l0_1) = some r := H
   have A10 := ak A100
   clear A100
   have H' := ak H
   clear H
   go_wp2_with (first | ((with_reducible refine gate_dst (N := 22) rfl ?_); (try (refine gate_guard (by rfl) ?_; dsimp only)); refine Kd.R_lit (Kd.int .i64) _ 3 ?hg (N := 22) ?hd (xs := ([0, 1, 2] : List Int)) (inner := [.int .i64 0, .int .i64 1, .int .i64 2]) (ok := fun _ => True) (okp := fun _ => True) ?hr ?hp (fun _ hk => hk) trivial (Below.refl _ _) (Nat.le_refl _) (by simp) ?_; (case hd => rfl); (case hg => rfl); (case hr => first | (go_simp; done) | (go_simp; rfl)); (case hp => exact (Reps.one (show Kd.M (Kd.int .i64) _ _ _ 0 [.int .i64 0] from rfl) (Reps.one (show Kd.M (Kd.int .i64) _ _ _ 1 [.int .i64 1] from rfl) (Reps.one (show Kd.M (Kd.int .i64) _ _ _ 2 [.int .i64 2] from rfl) (Reps.none _ _))))); intro v495 w11 ho12 hb hg_ hnew_; clear hg_ hnew_; (first | rw [← Ny494.out] at ho12 | (simp only [Int.reduceToNat] at ho12; rw [← Ny494.out] at ho12)); have n0_ := ak (Kd.R_below (rx HO489.out) hb); have n1_ := ak (Kd.R_elder' (rx HO492.out) (Kd.R_base ho12) hb); have n2_ := ak (Kd.R_lower (Kd.R_new' ho12 (Kd.R_lt (rx HO492.out))) (below_size lb)); have n3_ := ak (blk_below (bx BK485.out) hb); have n4_ := ak (below_step lb hb); clear HO489; clear HO492; clear BK485; clear HB; have HO489 := n0_; have HO492 := n1_; have HO496 := n2_; have BK485 := n3_; have HB := n4_; clear n0_ n1_ n2_ n3_ n4_; clear hb ho12; obtain ⟨Ao13, co13, eo13⟩ := Kd.R_slice HO492.out; subst eo13; obtain ⟨Ao14, co14, eo14⟩ := Kd.R_slice HO496.out; subst eo14) | (go_at_call 15; (with_reducible refine (compasslaw04_ints.calls k _ _ t490 _ _ y494 t497 _ ?side1 ?side2 ?side3 ?side4 A10.out).mono ?_); (case side1 => repeat (first | exact (Kd.R_reads' HO492.out).2.2 | (with_reducible refine Kd.C_alloc ?_ _) | (with_reducible refine Kd.C_drewN ?_ _) | (with_reducible refine Kd.C_drew ?_))); (case side2 => exact (Kd.R_reads' HO492.out).2.1); (case side3 => repeat (first | exact (Kd.R_reads' HO496.out).2.2 | (with_reducible refine Kd.C_alloc ?_ _) | (with_reducible refine Kd.C_drewN ?_ _) | (with_reducible refine Kd.C_drew ?_))); (case side4 => exact (Kd.R_reads' HO496.out).2.1); rintro e w' ⟨rfl, ⟨nd, rfl⟩⟩))
   go_meet
   case rel => exact ⟨_, (!t497), (by first | rfl | (simp [*]; done)), H', ⟨by first | omega | exact Nat.le_refl _⟩, ⟨bx BK485.out⟩, ⟨lb⟩⟩
  ·
   rw [if_neg c9] at H
   have c9b0 : (t493 == 0) = false := beq_eq_false_iff_ne.mpr c9
   have c9b1 : (t493 != 0) = true := bne_iff_ne.mpr c9
   (first | rw [c9b0] | (simp only [i64_w, i32_w]; rw [c9b0]) | skip)
   have H' := ak H
   clear H
   go_wp2
   go_meet
   case rel => exact ⟨_, (true), (by first | rfl | (simp [*]; done)), H', ⟨by first | omega | exact Nat.le_refl _⟩, ⟨bx BK485.out⟩, ⟨lb⟩⟩
 case rest =>
  clear HC4
  try clear c2; try clear p2; try clear c9; try clear c9b0; try clear c9b1
  obtain ⟨kq, x25_3, rfl, HA, HJ3, BK485, HB⟩ := hcut
  cases kq with
  | zero => exact absurd HA.out (by simp [compasslaw04_WalkParts.j0])
  | succ kj3 =>
   have H := HA.out
   clear HA
   simp only [compasslaw04_WalkParts.j0] at H
   by_cases c15 : x25_3 = true
   ·
    subst c15
    have H1 : (some false) = some r := by rw [if_pos rfl] at H; exact H
    clear H
    have H := H1
    clear H1
    exact absurd ((Option.some.inj H).trans HR_.out) (by decide)
   ·
    replace c15 := Bool.eq_false_iff.mpr c15
    subst c15
    have H1 : ((walk_Parts.f kj3 a0_0 l0_1).bind fun bt498 => ((compassref04_Parts.f kj3 a0_0 l0_1).bind fun bt502 => ((walk_Strong.f kj3 a0_0 l0_1).bind fun bt506 => ((compassref04_Strong.f kj3 a0_0 l0_1).bind fun bt510 => ((compasslaw04_ints.f kj3 bt498.1 bt502.1).bind fun t514 => (if t514 = true then (if bt498.2 = bt502.2 then ((compasslaw04_ints.f kj3 bt506.1 bt510.1).bind fun t515 => (if t515 = true then (some (bt506.2 == bt510.2)) else (some false))) else (some false)) else (some false))))))) = some r := by rw [if_neg (show ¬ (false = true) by decide)] at H; exact H
    clear H
    have H := H1
    clear H1
    replace H := Option.bind_eq_some_iff.mp H
    obtain ⟨⟨t498, t501⟩, A160, H⟩ := H
    replace H : ((compassref04_Parts.f kj3 a0_0 l0_1).bind fun bt502 => ((walk_Strong.f kj3 a0_0 l0_1).bind fun bt506 => ((compassref04_Strong.f kj3 a0_0 l0_1).bind fun bt510 => ((compasslaw04_ints.f kj3 t498 bt502.1).bind fun t514 => (if t514 = true then (if t501 = bt502.2 then ((compasslaw04_ints.f kj3 bt506.1 bt510.1).bind fun t515 => (if t515 = true then (some (bt506.2 == bt510.2)) else (some false))) else (some false)) else (some false)))))) = some r := H
    have A16 := ak A160
    clear A160
    replace H := Option.bind_eq_some_iff.mp H
    obtain ⟨⟨t502, t505⟩, A170, H⟩ := H
    replace H : ((walk_Strong.f kj3 a0_0 l0_1).bind fun bt506 => ((compassref04_Strong.f kj3 a0_0 l0_1).bind fun bt510 => ((compasslaw04_ints.f kj3 t498 t502).bind fun t514 => (if t514 = true then (if t501 = t505 then ((compasslaw04_ints.f kj3 bt506.1 bt510.1).bind fun t515 => (if t515 = true then (some (bt506.2 == bt510.2)) else (some false))) else (some false)) else (some false))))) = some r := H
    have A17 := ak A170
    clear A170
    replace H := Option.bind_eq_some_iff.mp H
    obtain ⟨⟨t506, t509⟩, A180, H⟩ := H
    replace H : ((compassref04_Strong.f kj3 a0_0 l0_1).bind fun bt510 => ((compasslaw04_ints.f kj3 t498 t502).bind fun t514 => (if t514 = true then (if t501 = t505 then ((compasslaw04_ints.f kj3 t506 bt510.1).bind fun t515 => (if t515 = true then (some (t509 == bt510.2)) else (some false))) else (some false)) else (some false)))) = some r := H
    have A18 := ak A180
    clear A180
    replace H := Option.bind_eq_some_iff.mp H
    obtain ⟨⟨t510, t513⟩, A190, H⟩ := H
    replace H : ((compasslaw04_ints.f kj3 t498 t502).bind fun t514 => (if t514 = true then (if t501 = t505 then ((compasslaw04_ints.f kj3 t506 t510).bind fun t515 => (if t515 = true then (some (t509 == t513)) else (some false))) else (some false)) else (some false))) = some r := H
    have A19 := ak A190
    clear A190
    replace H := Option.bind_eq_some_iff.mp H
    obtain ⟨t514, A200, H⟩ := H
    replace H : (if t514 = true then (if t501 = t505 then ((compasslaw04_ints.f kj3 t506 t510).bind fun t515 => (if t515 = true then (some (t509 == t513)) else (some false))) else (some false)) else (some false)) = some r := H
    have A20 := ak A200
    clear A200
    by_cases c21 : t514 = true
    ·
     subst c21
     have H1 : (if t501 = t505 then ((compasslaw04_ints.f kj3 t506 t510).bind fun t515 => (if t515 = true then (some (t509 == t513)) else (some false))) else (some false)) = some r := by rw [if_pos rfl] at H; exact H
     clear H
     have H := H1
     clear H1
     by_cases c22 : t501 = t505
     rotate_left
     ·
      rw [if_neg c22] at H
      have c22b0 : (t501 == t505) = false := beq_eq_false_iff_ne.mpr c22
      have c22b1 : (t501 != t505) = true := bne_iff_ne.mpr c22
      exact absurd ((Option.some.inj H).trans HR_.out) (by decide)
     rw [if_pos c22] at H
     have c22b0 : (t501 == t505) = true := beq_iff_eq.mpr c22
     have c22b1 : (t501 != t505) = false := bne_eq_false_iff_eq.mpr c22
     clear c22
     replace H := Option.bind_eq_some_iff.mp H
     obtain ⟨t515, A230, H⟩ := H
     replace H : (if t515 = true then (some (t509 == t513)) else (some false)) = some r := H
     have A23 := ak A230
     clear A230
     by_cases c24 : t515 = true
     ·
      subst c24
      have H1 : (some (t509 == t513)) = some r := by rw [if_pos rfl] at H; exact H
      clear H
      have H := H1
      clear H1
      obtain rfl := Option.some.inj H
      have hcz25_0 : wc.cell? ⟨gb485, 0, none⟩ = some (.int .i64 a0_0) := (blk_cell BK485.out 0).trans rfl
      have hcz25_1 : wc.cell? ⟨gb485, 1, none⟩ = some (.slice A0_1 l0_1.length c0_1) := (blk_cell BK485.out 1).trans rfl
      have hfz25_0 := blk_frozen BK485.out 0
      have hfz25_1 := blk_frozen BK485.out 1
      go_wp2_with (first | ((with_reducible refine gate_callee (f := 23) rfl ?_); refine goesL_ (some 28) rfl rfl Try.func23 (by kernel_rfl) rfl #[.agg #[.int .i64 a0_0, .slice A0_1 l0_1.length c0_1]] rfl (by (try simp only [List.map_toArray, List.map_cons, List.map_nil]); first | done | rfl | (simp only [List.length_drop, List.length_take]; rfl)) ?_; (with_reducible refine (walk_Parts.calls kj3 a0_0 _ _ l0_1 t498 t501 _ ?side1 ?side2 A16.out).mono ?_); (case side1 => repeat (first | exact (Kd.C_below HR0_1.out HB.out) | (with_reducible refine Kd.C_alloc ?_ _) | (with_reducible refine Kd.C_drewN ?_ _) | (with_reducible refine Kd.C_drew ?_))); (case side2 => exact HC0_1.out); rintro e w26 ⟨v499, rfl, ho0, hb⟩; refine ⟨_, rfl, ?_⟩; have n0_ := ak (Kd.R_lower ho0 (below_size lb)); have n1_ := ak (blk_below (bx BK485.out) hb); have n2_ := ak (below_step lb hb); clear BK485; clear HB; have HO500 := n0_; have BK485 := n1_; have HB := n2_; clear n0_ n1_ n2_; (try clear hb); (try clear hb2); (try clear hk); (try clear hi); (try clear ho0); have hcz27_0 : w26.cell? ⟨gb485, 0, none⟩ = some (.int .i64 a0_0) := (blk_cell BK485.out 0).trans rfl; have hcz27_1 : w26.cell? ⟨gb485, 1, none⟩ = some (.slice A0_1 l0_1.length c0_1) := (blk_cell BK485.out 1).trans rfl; have hfz27_0 := blk_frozen BK485.out 0; have hfz27_1 := blk_frozen BK485.out 1) | ((with_reducible refine gate_callee (f := 24) rfl ?_); refine goesL_ (some 33) rfl rfl Try.func24 (by kernel_rfl) rfl #[.agg #[.int .i64 a0_0, .slice A0_1 l0_1.length c0_1]] rfl (by (try simp only [List.map_toArray, List.map_cons, List.map_nil]); first | done | rfl | (simp only [List.length_drop, List.length_take]; rfl)) ?_; (with_reducible refine (compassref04_Parts.calls kj3 a0_0 _ _ l0_1 t502 t505 _ ?side1 ?side2 A17.out).mono ?_); (case side1 => repeat (first | exact (Kd.C_below HR0_1.out HB.out) | (with_reducible refine Kd.C_alloc ?_ _) | (with_reducible refine Kd.C_drewN ?_ _) | (with_reducible refine Kd.C_drew ?_))); (case side2 => exact HC0_1.out); rintro e w28 ⟨v503, rfl, ho0, hb⟩; refine ⟨_, rfl, ?_⟩; have n0_ := ak (Kd.R_elder' (rx HO500.out) (Kd.R_base ho0) hb); have n1_ := ak (Kd.R_lower (Kd.R_new' ho0 (Kd.R_lt (rx HO500.out))) (below_size lb)); have n2_ := ak (blk_below (bx BK485.out) hb); have n3_ := ak (below_step lb hb); clear HO500; clear BK485; clear HB; have HO500 := n0_; have HO504 := n1_; have BK485 := n2_; have HB := n3_; clear n0_ n1_ n2_ n3_; (try clear hb); (try clear hb2); (try clear hk); (try clear hi); (try clear ho0); have hcz29_0 : w28.cell? ⟨gb485, 0, none⟩ = some (.int .i64 a0_0) := (blk_cell BK485.out 0).trans rfl; have hcz29_1 : w28.cell? ⟨gb485, 1, none⟩ = some (.slice A0_1 l0_1.length c0_1) := (blk_cell BK485.out 1).trans rfl; have hfz29_0 := blk_frozen BK485.out 0; have hfz29_1 := blk_frozen BK485.out 1) | ((with_reducible refine gate_callee (f := 21) rfl ?_); refine goesL_ (some 38) rfl rfl Try.func21 (by kernel_rfl) rfl #[.agg #[.int .i64 a0_0, .slice A0_1 l0_1.length c0_1]] rfl (by (try simp only [List.map_toArray, List.map_cons, List.map_nil]); first | done | rfl | (simp only [List.length_drop, List.length_take]; rfl)) ?_; (with_reducible refine (walk_Strong.calls kj3 a0_0 _ _ l0_1 t506 t509 _ ?side1 ?side2 A18.out).mono ?_); (case side1 => repeat (first | exact (Kd.C_below HR0_1.out HB.out) | (with_reducible refine Kd.C_alloc ?_ _) | (with_reducible refine Kd.C_drewN ?_ _) | (with_reducible refine Kd.C_drew ?_))); (case side2 => exact HC0_1.out); rintro e w30 ⟨v507, rfl, ho0, hb⟩; refine ⟨_, rfl, ?_⟩; have n0_ := ak (Kd.R_elder' (rx HO500.out) (Kd.R_base ho0) hb); have n1_ := ak (Kd.R_elder' (rx HO504.out) (Kd.R_base ho0) hb); have n2_ := ak (Kd.R_lower (Kd.R_new' (Kd.R_new' ho0 (Kd.R_lt (rx HO500.out))) (Kd.R_lt (rx HO504.out))) (below_size lb)); have n3_ := ak (blk_below (bx BK485.out) hb); have n4_ := ak (below_step lb hb); clear HO500; clear HO504; clear BK485; clear HB; have HO500 := n0_; have HO504 := n1_; have HO508 := n2_; have BK485 := n3_; have HB := n4_; clear n0_ n1_ n2_ n3_ n4_; (try clear hb); (try clear hb2); (try clear hk); (try clear hi); (try clear ho0); have hcz31_0 : w30.cell? ⟨gb485, 0, none⟩ = some (.int .i64 a0_0) := (blk_cell BK485.out 0).trans rfl; have hcz31_1 : w30.cell? ⟨gb485, 1, none⟩ = some (.slice A0_1 l0_1.length c0_1) := (blk_cell BK485.out 1).trans rfl; have hfz31_0 := blk_frozen BK485.out 0; have hfz31_1 := blk_frozen BK485.out 1) | ((with_reducible refine gate_callee (f := 25) rfl ?_); refine goesL_ (some 43) rfl rfl Try.func25 (by kernel_rfl) rfl #[.agg #[.int .i64 a0_0, .slice A0_1 l0_1.length c0_1]] rfl (by (try simp only [List.map_toArray, List.map_cons, List.map_nil]); first | done | rfl | (simp only [List.length_drop, List.length_take]; rfl)) ?_; (with_reducible refine (compassref04_Strong.calls kj3 a0_0 _ _ l0_1 t510 t513 _ ?side1 ?side2 A19.out).mono ?_); (case side1 => repeat (first | exact (Kd.C_below HR0_1.out HB.out) | (with_reducible refine Kd.C_alloc ?_ _) | (with_reducible refine Kd.C_drewN ?_ _) | (with_reducible refine Kd.C_drew ?_))); (case side2 => exact HC0_1.out); rintro e w32 ⟨v511, rfl, ho0, hb⟩; refine ⟨_, rfl, ?_⟩; have n0_ := ak (Kd.R_elder' (rx HO500.out) (Kd.R_base ho0) hb); have n1_ := ak (Kd.R_elder' (rx HO504.out) (Kd.R_base ho0) hb); have n2_ := ak (Kd.R_elder' (rx HO508.out) (Kd.R_base ho0) hb); have n3_ := ak (Kd.R_lower (Kd.R_new' (Kd.R_new' (Kd.R_new' ho0 (Kd.R_lt (rx HO500.out))) (Kd.R_lt (rx HO504.out))) (Kd.R_lt (rx HO508.out))) (below_size lb)); have n4_ := ak (blk_below (bx BK485.out) hb); have n5_ := ak (below_step lb hb); clear HO500; clear HO504; clear HO508; clear BK485; clear HB; have HO500 := n0_; have HO504 := n1_; have HO508 := n2_; have HO512 := n3_; have BK485 := n4_; have HB := n5_; clear n0_ n1_ n2_ n3_ n4_ n5_; (try clear hb); (try clear hb2); (try clear hk); (try clear hi); (try clear ho0); obtain ⟨Ao33, co33, eo33⟩ := Kd.R_slice HO500.out; subst eo33; obtain ⟨Ao34, co34, eo34⟩ := Kd.R_slice HO504.out; subst eo34) | ((with_reducible refine gate_callee (f := 15) rfl ?_); refine goesL_ (some 48) rfl rfl Try.func15 (by kernel_rfl) rfl #[.slice Ao33 t498.length co33, .slice Ao34 t502.length co34] rfl (by (try simp only [List.map_toArray, List.map_cons, List.map_nil]); first | done | rfl | (simp only [List.length_drop, List.length_take]; rfl)) ?_; (with_reducible refine (compasslaw04_ints.calls kj3 _ _ t498 _ _ t502 true _ ?side1 ?side2 ?side3 ?side4 A20.out).mono ?_); (case side1 => repeat (first | exact (Kd.R_reads' HO500.out).2.2 | (with_reducible refine Kd.C_alloc ?_ _) | (with_reducible refine Kd.C_drewN ?_ _) | (with_reducible refine Kd.C_drew ?_))); (case side2 => exact (Kd.R_reads' HO500.out).2.1); (case side3 => repeat (first | exact (Kd.R_reads' HO504.out).2.2 | (with_reducible refine Kd.C_alloc ?_ _) | (with_reducible refine Kd.C_drewN ?_ _) | (with_reducible refine Kd.C_drew ?_))); (case side4 => exact (Kd.R_reads' HO504.out).2.1); rintro e w' ⟨rfl, ⟨nd, rfl⟩⟩; refine ⟨_, rfl, ?_⟩; obtain ⟨Ao35, co35, eo35⟩ := Kd.R_slice HO508.out; subst eo35; obtain ⟨Ao36, co36, eo36⟩ := Kd.R_slice HO512.out; subst eo36) | (go_at_call 15; (with_reducible refine (compasslaw04_ints.calls kj3 _ _ t506 _ _ t510 true _ ?side1 ?side2 ?side3 ?side4 A23.out).mono ?_); (case side1 => repeat (first | exact (Kd.R_reads' HO508.out).2.2 | (with_reducible refine Kd.C_alloc ?_ _) | (with_reducible refine Kd.C_drewN ?_ _) | (with_reducible refine Kd.C_drew ?_))); (case side2 => exact (Kd.R_reads' HO508.out).2.1); (case side3 => repeat (first | exact (Kd.R_reads' HO512.out).2.2 | (with_reducible refine Kd.C_alloc ?_ _) | (with_reducible refine Kd.C_drewN ?_ _) | (with_reducible refine Kd.C_drew ?_))); (case side4 => exact (Kd.R_reads' HO512.out).2.1); rintro e w' ⟨rfl, ⟨nd, rfl⟩⟩))
      go_ret
      exact ⟨by first | rfl | (simp [errW_none, errW_some] <;> rfl) | (simp [*, errW_none, errW_some] <;> rfl), lb⟩
     ·
      replace c24 := Bool.eq_false_iff.mpr c24
      subst c24
      have H1 : (some false) = some r := by rw [if_neg (show ¬ (false = true) by decide)] at H; exact H
      clear H
      have H := H1
      clear H1
      exact absurd ((Option.some.inj H).trans HR_.out) (by decide)
    ·
     replace c21 := Bool.eq_false_iff.mpr c21
     subst c21
     have H1 : (some false) = some r := by rw [if_neg (show ¬ (false = true) by decide)] at H; exact H
     clear H
     have H := H1
     clear H1
     exact absurd ((Option.some.inj H).trans HR_.out) (by decide)

/-! ### compassref03_Reverse: function 26 -/
def compassref03_Reverse.l0 : Nat → Int → Int → List (S41) → Int → List (S41) → Option (Int × (List (S41)))
  | 0, _, _, _, _, _ => none
  | k + 1, x4, x517000, x517001, x519000, x519001 => if x4 < (x517001.length : Int) then (if 0 ≤ x4 then (if x519001.length < 4398046511104 then (compassref03_Reverse.l0 k (wrap64 (x4 + 1)) x517000 x517001 x519000 (x519001 ++ [(⟨(rd_T41 x517001 x4).f1, (rd_T41 x517001 x4).f0, (rd_T41 x517001 x4).f2, (rd_T41 x517001 x4).f3⟩ : S41)])) else (none)) else (none)) else (some (x519000, x519001))
def compassref03_Reverse.f (k : Nat) (a0_0 : Int) (l0_1 : List (S41)) : Option (Int × (List (S41))) := compassref03_Reverse.l0 k 0 a0_0 l0_1 a0_0 ([] : List (S41))
theorem compassref03_Reverse.mono_l : ∀ k, (∀ y0 y1 y2 y3 y4, LeO (compassref03_Reverse.l0 k y0 y1 y2 y3 y4) (compassref03_Reverse.l0 (k + 1) y0 y1 y2 y3 y4))
  | 0 => fun _ _ _ _ _ r h => by simp [compassref03_Reverse.l0] at h
  | k + 1 => by
    have ih0 := compassref03_Reverse.mono_l k
    · intro y0 y1 y2 y3 y4
      unfold compassref03_Reverse.l0
      repeat' first
      | (with_reducible exact ih0 _ _ _ _ _)
      | (with_reducible exact LeO.refl _)
      | (with_reducible exact LeO.none _)
      | (with_reducible refine LeO.ite ?_ ?_)
      | (with_reducible refine LeO.bind ?_ (fun _ => ?_))
      | exact ih0 _ _ _ _ _
      | exact LeO.none _
      | refine LeO.ite ?_ ?_
      | refine LeO.bind ?_ (fun _ => ?_)
theorem compassref03_Reverse.mono : ∀ a0 a1 k, LeO (compassref03_Reverse.f k a0 a1) (compassref03_Reverse.f (k + 1) a0 a1) := by
  intro a0 a1 k
  have ih0 := compassref03_Reverse.mono_l k
  unfold compassref03_Reverse.f
  repeat' first
      | (with_reducible exact ih0 _ _ _ _ _)
      | (with_reducible exact LeO.refl _)
      | (with_reducible exact LeO.none _)
      | (with_reducible refine LeO.ite ?_ ?_)
      | (with_reducible refine LeO.bind ?_ (fun _ => ?_))
      | exact ih0 _ _ _ _ _
      | exact LeO.none _
      | refine LeO.ite ?_ ?_
      | refine LeO.bind ?_ (fun _ => ?_)

end Go.Proofs.Ytacklfnnpiobgaa.Q
