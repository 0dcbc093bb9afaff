-- PRINTED by print.py (a twelfth state) out of the translation. Not trusted: Lean checks it.
import Derived.Test.YtacklfnnpiobgaaQ0
import Derived.Test.YtacklfnnpiobgaaQ7
import Derived.Test.YtacklfnnpiobgaaQ8
import Derived.Test.YtacklfnnpiobgaaQ16
import Derived.Test.YtacklfnnpiobgaaQ17
namespace Go.Proofs.Ytacklfnnpiobgaa.Q
open Go.RowKit Go.Proofs.YtacklfnnpiobgaaW.PrintWords Go.Proofs.YtacklfnnpiobgaaW.PrintLast Go.Proofs.YtacklfnnpiobgaaW.PrintMore
attribute [local go_sem] max2_int min2_int max_two min_two max_three min_three max_four min_four   -- for this text's walks alone
set_option linter.unusedVariables false
set_option linter.unusedSimpArgs false

/-! ### compasslaw04_WalkAcyclic: function 6 -/
mutual
def compasslaw04_WalkAcyclic.l0 : Nat → List Int → List Int → Int → Int → Int → List (S41) → Option (Bool)
  | 0, _, _, _, _, _, _ => none
  | k + 1, x6, x47, x48, x49, x330000, x330001 => if x49 < x48 then (if 0 ≤ x49 then (if x49 < (x47.length : Int) then (if (rd x47 x49) < 0 then (some false) else (if (rd x47 x49) ≥ x330000 then (some false) else (if 0 ≤ (rd x47 x49) then (if (rd x47 x49) < (x6.length : Int) then (if (rd x6 (rd x47 x49)) = 0 then (compasslaw04_WalkAcyclic.l0 k (x6.set ((rd x47 x49) : Int).toNat (wrap64 (x49 + 1))) x47 x48 (wrap64 (x49 + 1)) x330000 x330001) else (some false)) else (none)) else (none)))) else (none)) else (none)) else (compasslaw04_WalkAcyclic.l1 k x6 x330001 (x330001.length : Int) 0)
def compasslaw04_WalkAcyclic.l1 : Nat → List Int → List (S41) → Int → Int → Option (Bool)
  | 0, _, _, _, _ => none
  | k + 1, x6, x76, x77, x78 => if x78 < x77 then (if 0 ≤ x78 then (if x78 < (x76.length : Int) then (if 0 ≤ ((rd_T41 x76 x78).f0) then (if ((rd_T41 x76 x78).f0) < (x6.length : Int) then (if 0 ≤ ((rd_T41 x76 x78).f1) then (if ((rd_T41 x76 x78).f1) < (x6.length : Int) then (if (rd x6 ((rd_T41 x76 x78).f0)) ≥ (rd x6 ((rd_T41 x76 x78).f1)) then (some false) else (compasslaw04_WalkAcyclic.l1 k x6 x76 x77 (wrap64 (x78 + 1)))) else (none)) else (none)) else (none)) else (none)) else (none)) else (none)) else (some true)
end
def compasslaw04_WalkAcyclic.f (k : Nat) (a0_0 : Int) (l0_1 : List (S41)) : Option (Bool) := (compasslaw04_awake.f k).bind fun t330 => (if t330 = true then ((walk_Order.f k a0_0 l0_1).bind fun bt331 => (if bt331.2.2 = 71 then (if (bt331.1.length : Int) = 0 then ((compassref04_Circle.f k a0_0 l0_1 bt331.2.1).bind fun t338 => (some t338)) else (some false)) else (if bt331.2.2 = 0 then (if (bt331.1.length : Int) = a0_0 then (if 0 ≤ a0_0 then (if (a0_0 : Int).toNat ≤ 35184372088832 then (compasslaw04_WalkAcyclic.l0 k (List.replicate (a0_0 : Int).toNat 0) bt331.1 (bt331.1.length : Int) 0 a0_0 l0_1) else (none)) else (none)) else (some false)) else (if (bt331.1.length : Int) = 0 then (some ((bt331.2.1.length : Int) == 0)) else (some false))))) else (some false))
theorem compasslaw04_WalkAcyclic.mono_l : ∀ k, (∀ y0 y1 y2 y3 y4 y5, LeO (compasslaw04_WalkAcyclic.l0 k y0 y1 y2 y3 y4 y5) (compasslaw04_WalkAcyclic.l0 (k + 1) y0 y1 y2 y3 y4 y5)) ∧ (∀ y0 y1 y2 y3, LeO (compasslaw04_WalkAcyclic.l1 k y0 y1 y2 y3) (compasslaw04_WalkAcyclic.l1 (k + 1) y0 y1 y2 y3))
  | 0 => ⟨fun _ _ _ _ _ _ r h => by simp [compasslaw04_WalkAcyclic.l0] at h, fun _ _ _ _ r h => by simp [compasslaw04_WalkAcyclic.l1] at h⟩
  | k + 1 => by
    obtain ⟨ih0, ih1⟩ := compasslaw04_WalkAcyclic.mono_l k
    refine ⟨?_, ?_⟩
    · intro y0 y1 y2 y3 y4 y5
      unfold compasslaw04_WalkAcyclic.l0
      repeat' first
      | (with_reducible exact ih0 _ _ _ _ _ _)
      | (with_reducible exact ih1 _ _ _ _)
      | (with_reducible exact compasslaw04_awake.mono _)
      | (with_reducible exact compassref04_Circle.mono _ _ _ _)
      | (with_reducible exact walk_Order.mono _ _ _)
      | (with_reducible exact LeO.refl _)
      | (with_reducible exact LeO.none _)
      | (with_reducible refine LeO.ite ?_ ?_)
      | (with_reducible refine LeO.bind ?_ (fun _ => ?_))
      | exact ih0 _ _ _ _ _ _
      | exact ih1 _ _ _ _
      | exact compasslaw04_awake.mono _
      | exact compassref04_Circle.mono _ _ _ _
      | exact walk_Order.mono _ _ _
      | exact LeO.none _
      | refine LeO.ite ?_ ?_
      | refine LeO.bind ?_ (fun _ => ?_)
    · intro y0 y1 y2 y3
      unfold compasslaw04_WalkAcyclic.l1
      repeat' first
      | (with_reducible exact ih0 _ _ _ _ _ _)
      | (with_reducible exact ih1 _ _ _ _)
      | (with_reducible exact compasslaw04_awake.mono _)
      | (with_reducible exact compassref04_Circle.mono _ _ _ _)
      | (with_reducible exact walk_Order.mono _ _ _)
      | (with_reducible exact LeO.refl _)
      | (with_reducible exact LeO.none _)
      | (with_reducible refine LeO.ite ?_ ?_)
      | (with_reducible refine LeO.bind ?_ (fun _ => ?_))
      | exact ih0 _ _ _ _ _ _
      | exact ih1 _ _ _ _
      | exact compasslaw04_awake.mono _
      | exact compassref04_Circle.mono _ _ _ _
      | exact walk_Order.mono _ _ _
      | exact LeO.none _
      | refine LeO.ite ?_ ?_
      | refine LeO.bind ?_ (fun _ => ?_)
theorem compasslaw04_WalkAcyclic.mono : ∀ a0 a1 k, LeO (compasslaw04_WalkAcyclic.f k a0 a1) (compasslaw04_WalkAcyclic.f (k + 1) a0 a1) := by
  intro a0 a1 k
  obtain ⟨ih0, ih1⟩ := compasslaw04_WalkAcyclic.mono_l k
  unfold compasslaw04_WalkAcyclic.f
  repeat' first
      | (with_reducible exact ih0 _ _ _ _ _ _)
      | (with_reducible exact ih1 _ _ _ _)
      | (with_reducible exact compasslaw04_awake.mono _)
      | (with_reducible exact compassref04_Circle.mono _ _ _ _)
      | (with_reducible exact walk_Order.mono _ _ _)
      | (with_reducible exact LeO.refl _)
      | (with_reducible exact LeO.none _)
      | (with_reducible refine LeO.ite ?_ ?_)
      | (with_reducible refine LeO.bind ?_ (fun _ => ?_))
      | exact ih0 _ _ _ _ _ _
      | exact ih1 _ _ _ _
      | exact compasslaw04_awake.mono _
      | exact compassref04_Circle.mono _ _ _ _
      | exact walk_Order.mono _ _ _
      | exact LeO.none _
      | refine LeO.ite ?_ ?_
      | refine LeO.bind ?_ (fun _ => ?_)
set_option maxHeartbeats 8000000 in
set_option maxRecDepth 100000 in
theorem compasslaw04_WalkAcyclic.calls (k : Nat) (a0_0 : Int) (A0_1 : Option Addr) (c0_1 : Nat) (l0_1 : List (S41)) (r : Bool) (w : World) (hr0_1 : Kd.C k41 w A0_1 l0_1.length l0_1) (hc0_1 : l0_1.length ≤ c0_1) (hr_ : r = true) (h : compasslaw04_WalkAcyclic.f k a0_0 l0_1 = some r) :
    Calls Try.prog 6 #[.agg #[.int .i64 a0_0, .slice A0_1 l0_1.length c0_1]] w fun e w' => e = .returned (.bool r) ∧ Below w.heap.size w w' := by
 have hu24 := Try.underlying24
 have hu41 := Try.underlying41
 have HR0_1 := Aside0.mk hr0_1
 have HC0_1 := Aside0.mk hc0_1
 clear hr0_1 hc0_1
 have HB := Aside0.mk (Below.refl w.heap.size w)
 have HR_ := Aside0.mk hr_
 clear hr_
 have H : ((compasslaw04_awake.f k).bind fun t330 => (if t330 = true then ((walk_Order.f k a0_0 l0_1).bind fun bt331 => (if bt331.2.2 = 71 then (if (bt331.1.length : Int) = 0 then ((compassref04_Circle.f k a0_0 l0_1 bt331.2.1).bind fun t338 => (some t338)) else (some false)) else (if bt331.2.2 = 0 then (if (bt331.1.length : Int) = a0_0 then (if 0 ≤ a0_0 then (if (a0_0 : Int).toNat ≤ 35184372088832 then (compasslaw04_WalkAcyclic.l0 k (List.replicate (a0_0 : Int).toNat 0) bt331.1 (bt331.1.length : Int) 0 a0_0 l0_1) else (none)) else (none)) else (some false)) else (if (bt331.1.length : Int) = 0 then (some ((bt331.2.1.length : Int) == 0)) else (some false))))) else (some false))) = some r := h
 clear h
 replace H := Option.bind_eq_some_iff.mp H
 obtain ⟨t330, A20, H⟩ := H
 replace H : (if t330 = true then ((walk_Order.f k a0_0 l0_1).bind fun bt331 => (if bt331.2.2 = 71 then (if (bt331.1.length : Int) = 0 then ((compassref04_Circle.f k a0_0 l0_1 bt331.2.1).bind fun t338 => (some t338)) else (some false)) else (if bt331.2.2 = 0 then (if (bt331.1.length : Int) = a0_0 then (if 0 ≤ a0_0 then (if (a0_0 : Int).toNat ≤ 35184372088832 then (compasslaw04_WalkAcyclic.l0 k (List.replicate (a0_0 : Int).toNat 0) bt331.1 (bt331.1.length : Int) 0 a0_0 l0_1) else (none)) else (none)) else (some false)) else (if (bt331.1.length : Int) = 0 then (some ((bt331.2.1.length : Int) == 0)) else (some false))))) else (some false)) = some r := H
 have A2 := Aside0.mk A20
 clear A20
 by_cases c3 : t330 = true
 ·
  subst c3
  have H1 : ((walk_Order.f k a0_0 l0_1).bind fun bt331 => (if bt331.2.2 = 71 then (if (bt331.1.length : Int) = 0 then ((compassref04_Circle.f k a0_0 l0_1 bt331.2.1).bind fun t338 => (some t338)) else (some false)) else (if bt331.2.2 = 0 then (if (bt331.1.length : Int) = a0_0 then (if 0 ≤ a0_0 then (if (a0_0 : Int).toNat ≤ 35184372088832 then (compasslaw04_WalkAcyclic.l0 k (List.replicate (a0_0 : Int).toNat 0) bt331.1 (bt331.1.length : Int) 0 a0_0 l0_1) else (none)) else (none)) else (some false)) else (if (bt331.1.length : Int) = 0 then (some ((bt331.2.1.length : Int) == 0)) else (some false))))) = some r := by rw [if_pos rfl] at H; exact H
  clear H
  have H := H1
  clear H1
  replace H := Option.bind_eq_some_iff.mp H
  obtain ⟨⟨t331, t334, t337⟩, A40, H⟩ := H
  replace H : (if t337 = 71 then (if (t331.length : Int) = 0 then ((compassref04_Circle.f k a0_0 l0_1 t334).bind fun t338 => (some t338)) else (some false)) else (if t337 = 0 then (if (t331.length : Int) = a0_0 then (if 0 ≤ a0_0 then (if (a0_0 : Int).toNat ≤ 35184372088832 then (compasslaw04_WalkAcyclic.l0 k (List.replicate (a0_0 : Int).toNat 0) t331 (t331.length : Int) 0 a0_0 l0_1) else (none)) else (none)) else (some false)) else (if (t331.length : Int) = 0 then (some ((t334.length : Int) == 0)) else (some false)))) = some r := H
  have A4 := Aside0.mk A40
  clear A40
  by_cases c5 : t337 = 71
  ·
   rw [if_pos c5] at H
   have c5b0 : (t337 == 71) = true := beq_iff_eq.mpr c5
   have c5b1 : (t337 != 71) = false := bne_eq_false_iff_eq.mpr c5
   clear c5
   by_cases c6 : (t331.length : Int) = 0
   ·
    rw [if_pos c6] at H
    have c6b0 : ((t331.length : Int) == 0) = true := beq_iff_eq.mpr c6
    have c6b1 : ((t331.length : Int) != 0) = false := bne_eq_false_iff_eq.mpr c6
    clear c6
    replace H := Option.bind_eq_some_iff.mp H
    obtain ⟨t338, A70, H⟩ := H
    replace H : (some t338) = some r := H
    have A7 := Aside0.mk A70
    clear A70
    obtain rfl := Option.some.inj H
    go_enter Try.func6, Try.ntmps6
    go_wp2_with (first | ((with_reducible refine gate_dst (N := 1) rfl ?_); (try (refine gate_guard (by rfl) ?_; dsimp only)); refine box_event ?hg (N := 1) ?hd (cs := #[.int .i64 a0_0, .slice A0_1 l0_1.length c0_1]) (t := 24) ?hr ?_; (case hd => rfl); (case hg => rfl); (case hr => first | (go_simp; done) | (go_simp; rfl)); intro gb329 hg w8 hbox hb; have n0_ := Aside0.mk (below_step (by repeat (first | (with_reducible first | exact HB.out | apply below_alloc | apply pw_below_drewN | apply below_drew1) | exact HB.out)) hb); have n1_ := Aside0.mk (hbox); have n2_ := Aside0.mk ((by rw [hg]; exact (below_size (by repeat (first | (with_reducible first | exact HB.out | apply below_alloc | apply pw_below_drewN | apply below_drew1) | exact HB.out))) : w.heap.size ≤ gb329)); have n3_ := Aside0.mk ((by rw [hg]; exact (below_size (by repeat (first | (with_reducible first | exact HB.out | apply below_alloc | apply pw_below_drewN | apply below_drew1) | exact HB.out))) : w.heap.size ≤ gb329)); clear HB; have HB := n0_; have BK329 := n1_; have GW329 := n2_; have GE329 := n3_; clear n0_ n1_ n2_ n3_; clear hb hbox hg) | (go_at_call 12; (with_reducible refine (compasslaw04_awake.calls k  true _ A2.out).mono ?_); rintro e w9 ⟨rfl, hb⟩; have n0_ := Aside0.mk (blk_below (g := gb329) (o := .cells #[.int .i64 a0_0, .slice A0_1 l0_1.length c0_1] 24 (0, 0)) (by (with_reducible repeat (first | refine blk_drewN ?_ _ | refine blk_drew ?_ | refine blk_alloc ?_ _)); exact BK329.out) hb); have n1_ := Aside0.mk (below_step (by repeat (first | (with_reducible first | exact HB.out | apply below_alloc | apply pw_below_drewN | apply below_drew1 | refine below_set ?_ GE329.out) | exact HB.out)) hb); clear BK329; clear HB; have BK329 := n0_; have HB := n1_; clear n0_ n1_; (try clear hb); (try clear hb2); (try clear hk); (try clear hi); have hcz10_0 : w9.cell? ⟨gb329, 0, none⟩ = some (.int .i64 a0_0) := (blk_cell BK329.out 0).trans rfl; have hcz10_1 : w9.cell? ⟨gb329, 1, none⟩ = some (.slice A0_1 l0_1.length c0_1) := (blk_cell BK329.out 1).trans rfl; have hfz10_0 := blk_frozen BK329.out 0; have hfz10_1 := blk_frozen BK329.out 1) | (go_at_call 16; (with_reducible refine (walk_Order.calls k a0_0 _ _ l0_1 t331 t334 t337 _ ?side1 ?side2 A4.out).mono ?_); (case side1 => repeat (first | exact (Kd.C_below HR0_1.out HB.out) | (with_reducible refine Kd.C_alloc ?_ _) | (with_reducible refine Kd.C_drewN ?_ _) | (with_reducible refine Kd.C_drew ?_))); (case side2 => exact HC0_1.out); rintro e w11 ⟨v332, v335, rfl, ho0, ho1, hb⟩; have n0_ := Aside0.mk (Kd.R_lower ho0 (below_size (by repeat (first | (with_reducible first | exact HB.out | apply below_alloc | apply pw_below_drewN | apply below_drew1 | refine below_set ?_ GE329.out) | exact HB.out)))); have n1_ := Aside0.mk (Kd.R_lower ho1 (below_size (by repeat (first | (with_reducible first | exact HB.out | apply below_alloc | apply pw_below_drewN | apply below_drew1 | refine below_set ?_ GE329.out) | exact HB.out)))); have n2_ := Aside0.mk (blk_below (g := gb329) (o := .cells #[.int .i64 a0_0, .slice A0_1 l0_1.length c0_1] 24 (0, 0)) (by (with_reducible repeat (first | refine blk_drewN ?_ _ | refine blk_drew ?_ | refine blk_alloc ?_ _)); exact BK329.out) hb); have n3_ := Aside0.mk (below_step (by repeat (first | (with_reducible first | exact HB.out | apply below_alloc | apply pw_below_drewN | apply below_drew1 | refine below_set ?_ GE329.out) | exact HB.out)) hb); clear BK329; clear HB; have HO333 := n0_; have HO336 := n1_; have BK329 := n2_; have HB := n3_; clear n0_ n1_ n2_ n3_; (try clear hb); (try clear hb2); (try clear hk); (try clear hi); (try clear ho0); (try clear ho1); obtain ⟨Ao12, co12, eo12⟩ := Kd.R_slice HO333.out; subst eo12; have hcz13_0 : w11.cell? ⟨gb329, 0, none⟩ = some (.int .i64 a0_0) := (blk_cell BK329.out 0).trans rfl; have hcz13_1 : w11.cell? ⟨gb329, 1, none⟩ = some (.slice A0_1 l0_1.length c0_1) := (blk_cell BK329.out 1).trans rfl; have hfz13_0 := blk_frozen BK329.out 0; have hfz13_1 := blk_frozen BK329.out 1; obtain ⟨Ao14, co14, eo14⟩ := Kd.R_slice HO336.out; subst eo14) | (go_at_call 18; (with_reducible refine (compassref04_Circle.calls k a0_0 _ _ l0_1 _ _ t334 t338 _ ?side1 ?side2 ?side3 ?side4 A7.out).mono ?_); (case side1 => repeat (first | exact (Kd.C_below HR0_1.out HB.out) | (with_reducible refine Kd.C_alloc ?_ _) | (with_reducible refine Kd.C_drewN ?_ _) | (with_reducible refine Kd.C_drew ?_))); (case side2 => exact HC0_1.out); (case side3 => repeat (first | exact (Kd.R_reads' HO336.out).2.2 | (with_reducible refine Kd.C_alloc ?_ _) | (with_reducible refine Kd.C_drewN ?_ _) | (with_reducible refine Kd.C_drew ?_))); (case side4 => exact (Kd.R_reads' HO336.out).2.1); rintro e w15 ⟨rfl, hb⟩; have n0_ := Aside0.mk (Kd.R_below (by (with_reducible repeat (first | apply Kd.R_alloc | apply Kd.R_drewN | apply Kd.R_drew)); exact HO333.out) hb); have n1_ := Aside0.mk (Kd.R_below (by (with_reducible repeat (first | apply Kd.R_alloc | apply Kd.R_drewN | apply Kd.R_drew)); exact HO336.out) hb); have n2_ := Aside0.mk (blk_below (g := gb329) (o := .cells #[.int .i64 a0_0, .slice A0_1 l0_1.length c0_1] 24 (0, 0)) (by (with_reducible repeat (first | refine blk_drewN ?_ _ | refine blk_drew ?_ | refine blk_alloc ?_ _)); exact BK329.out) hb); have n3_ := Aside0.mk (below_step (by repeat (first | (with_reducible first | exact HB.out | apply below_alloc | apply pw_below_drewN | apply below_drew1 | refine below_set ?_ GE329.out) | exact HB.out)) hb); clear HO333; clear HO336; clear BK329; clear HB; have HO333 := n0_; have HO336 := n1_; have BK329 := n2_; have HB := n3_; clear n0_ n1_ n2_ n3_; (try clear hb); (try clear hb2); (try clear hk); (try clear hi)))
    go_ret
    exact ⟨by first | rfl | (simp [errW_none, errW_some] <;> rfl) | (simp [*, errW_none, errW_some] <;> rfl), by repeat (first | (with_reducible first | exact HB.out | apply below_alloc | apply pw_below_drewN | apply below_drew1 | refine below_set ?_ GE329.out) | exact HB.out)⟩
   ·
    rw [if_neg c6] at H
    have c6b0 : ((t331.length : Int) == 0) = false := beq_eq_false_iff_ne.mpr c6
    have c6b1 : ((t331.length : Int) != 0) = true := bne_iff_ne.mpr c6
    have c6b2 : ¬ (t331 = []) := fun h_ => c6 (by rw [h_]; rfl)
    exact absurd ((Option.some.inj H).trans HR_.out) (by decide)
  ·
   rw [if_neg c5] at H
   have c5b0 : (t337 == 71) = false := beq_eq_false_iff_ne.mpr c5
   have c5b1 : (t337 != 71) = true := bne_iff_ne.mpr c5
   by_cases c16 : t337 = 0
   ·
    rw [if_pos c16] at H
    have c16b0 : (t337 == 0) = true := beq_iff_eq.mpr c16
    have c16b1 : (t337 != 0) = false := bne_eq_false_iff_eq.mpr c16
    clear c16
    by_cases c17 : (t331.length : Int) = a0_0
    ·
     rw [if_pos c17] at H
     have c17b0 : ((t331.length : Int) == a0_0) = true := beq_iff_eq.mpr c17
     have c17b1 : ((t331.length : Int) != a0_0) = false := bne_eq_false_iff_eq.mpr c17
     clear c17
     by_cases c18 : 0 ≤ a0_0
     ·
      rw [if_pos c18] at H
      have c18b0 := eq_true c18
      have c18b1 : decide (0 ≤ a0_0) = true := decide_eq_true c18
      clear c18
      by_cases c19 : (a0_0 : Int).toNat ≤ 35184372088832
      ·
       rw [if_pos c19] at H
       have c19b0 := eq_true c19
       have c19b1 : decide ((a0_0 : Int).toNat ≤ 35184372088832) = true := decide_eq_true c19
       clear c19
       obtain ⟨y339, hy339⟩ : ∃ y_ : List Int, y_ = (List.replicate (a0_0 : Int).toNat 0) := ⟨_, rfl⟩
       replace H : (compasslaw04_WalkAcyclic.l0 k y339 t331 (t331.length : Int) 0 a0_0 l0_1) = some r := by first | (rw [hy339]; with_reducible exact H) | (have H2_ := (Option.bind_some _ _).symm.trans H; rw [hy339]; with_reducible exact H2_) | (have H2_ := (Option.bind_some _ _).symm.trans H; with_reducible exact H2_) | with_reducible exact H | (rw [hy339]; exact H) | exact H
       have Ny339 := Aside0.mk hy339
       clear hy339
       have H' := Aside0.mk H
       clear H
       go_enter Try.func6, Try.ntmps6
       go_wp2_with (first | ((with_reducible refine gate_dst (N := 1) rfl ?_); (try (refine gate_guard (by rfl) ?_; dsimp only)); refine box_event ?hg (N := 1) ?hd (cs := #[.int .i64 a0_0, .slice A0_1 l0_1.length c0_1]) (t := 24) ?hr ?_; (case hd => rfl); (case hg => rfl); (case hr => first | (go_simp; done) | (go_simp; rfl)); intro gb329 hg w20 hbox hb; have n0_ := Aside0.mk (below_step (by repeat (first | (with_reducible first | exact HB.out | apply below_alloc | apply pw_below_drewN | apply below_drew1) | exact HB.out)) hb); have n1_ := Aside0.mk (hbox); have n2_ := Aside0.mk ((by rw [hg]; exact (below_size (by repeat (first | (with_reducible first | exact HB.out | apply below_alloc | apply pw_below_drewN | apply below_drew1) | exact HB.out))) : w.heap.size ≤ gb329)); have n3_ := Aside0.mk ((by rw [hg]; exact (below_size (by repeat (first | (with_reducible first | exact HB.out | apply below_alloc | apply pw_below_drewN | apply below_drew1) | exact HB.out))) : w.heap.size ≤ gb329)); clear HB; have HB := n0_; have BK329 := n1_; have GW329 := n2_; have GE329 := n3_; clear n0_ n1_ n2_ n3_; clear hb hbox hg) | (go_at_call 12; (with_reducible refine (compasslaw04_awake.calls k  true _ A2.out).mono ?_); rintro e w21 ⟨rfl, hb⟩; have n0_ := Aside0.mk (blk_below (g := gb329) (o := .cells #[.int .i64 a0_0, .slice A0_1 l0_1.length c0_1] 24 (0, 0)) (by (with_reducible repeat (first | refine blk_drewN ?_ _ | refine blk_drew ?_ | refine blk_alloc ?_ _)); exact BK329.out) hb); have n1_ := Aside0.mk (below_step (by repeat (first | (with_reducible first | exact HB.out | apply below_alloc | apply pw_below_drewN | apply below_drew1 | refine below_set ?_ GE329.out) | exact HB.out)) hb); clear BK329; clear HB; have BK329 := n0_; have HB := n1_; clear n0_ n1_; (try clear hb); (try clear hb2); (try clear hk); (try clear hi); have hcz22_0 : w21.cell? ⟨gb329, 0, none⟩ = some (.int .i64 a0_0) := (blk_cell BK329.out 0).trans rfl; have hcz22_1 : w21.cell? ⟨gb329, 1, none⟩ = some (.slice A0_1 l0_1.length c0_1) := (blk_cell BK329.out 1).trans rfl; have hfz22_0 := blk_frozen BK329.out 0; have hfz22_1 := blk_frozen BK329.out 1) | (go_at_call 16; (with_reducible refine (walk_Order.calls k a0_0 _ _ l0_1 t331 t334 t337 _ ?side1 ?side2 A4.out).mono ?_); (case side1 => repeat (first | exact (Kd.C_below HR0_1.out HB.out) | (with_reducible refine Kd.C_alloc ?_ _) | (with_reducible refine Kd.C_drewN ?_ _) | (with_reducible refine Kd.C_drew ?_))); (case side2 => exact HC0_1.out); rintro e w23 ⟨v332, v335, rfl, ho0, ho1, hb⟩; have n0_ := Aside0.mk (Kd.R_lower ho0 (below_size (by repeat (first | (with_reducible first | exact HB.out | apply below_alloc | apply pw_below_drewN | apply below_drew1 | refine below_set ?_ GE329.out) | exact HB.out)))); have n1_ := Aside0.mk (Kd.R_lower ho1 (below_size (by repeat (first | (with_reducible first | exact HB.out | apply below_alloc | apply pw_below_drewN | apply below_drew1 | refine below_set ?_ GE329.out) | exact HB.out)))); have n2_ := Aside0.mk (blk_below (g := gb329) (o := .cells #[.int .i64 a0_0, .slice A0_1 l0_1.length c0_1] 24 (0, 0)) (by (with_reducible repeat (first | refine blk_drewN ?_ _ | refine blk_drew ?_ | refine blk_alloc ?_ _)); exact BK329.out) hb); have n3_ := Aside0.mk (below_step (by repeat (first | (with_reducible first | exact HB.out | apply below_alloc | apply pw_below_drewN | apply below_drew1 | refine below_set ?_ GE329.out) | exact HB.out)) hb); clear BK329; clear HB; have HO333 := n0_; have HO336 := n1_; have BK329 := n2_; have HB := n3_; clear n0_ n1_ n2_ n3_; (try clear hb); (try clear hb2); (try clear hk); (try clear hi); (try clear ho0); (try clear ho1); obtain ⟨Ao24, co24, eo24⟩ := Kd.R_slice HO333.out; subst eo24; have hcz25_0 : w23.cell? ⟨gb329, 0, none⟩ = some (.int .i64 a0_0) := (blk_cell BK329.out 0).trans rfl; have hcz25_1 : w23.cell? ⟨gb329, 1, none⟩ = some (.slice A0_1 l0_1.length c0_1) := (blk_cell BK329.out 1).trans rfl; have hfz25_0 := blk_frozen BK329.out 0; have hfz25_1 := blk_frozen BK329.out 1) | ((with_reducible refine gate_dst (N := 46) rfl ?_); (try (refine gate_guard (by rfl) ?_; dsimp only)); refine Kd.R_make (Kd.int .i64) _ 3 rfl (N := 46) rfl 26 _ _ rfl a0_0 rfl rfl Try.underlying26 (.int .i64 0) 8 info3 rfl (by decide) (by omega) 0 (ok := fun _ => True) (okp := fun _ => True) rfl (fun _ hk => hk) trivial (of_decide_eq_true (by first | (with_reducible assumption) | assumption)) (Nat.le_trans (Nat.mul_le_mul_right _ (of_decide_eq_true (by first | (with_reducible assumption) | assumption) : a0_0.toNat ≤ 35184372088832)) (by omega)) (Below.refl _ _) (Nat.le_refl _) ?_; intro v340 w26 ho27 hb hg_ hnew_; clear hg_ hnew_; (first | rw [← Ny339.out] at ho27 | (simp only [Int.reduceToNat] at ho27; rw [← Ny339.out] at ho27)); have n0_ := Aside0.mk (Kd.R_elder' (by (with_reducible repeat (first | apply Kd.R_alloc | apply Kd.R_drewN | apply Kd.R_drew)); exact HO333.out) (Kd.R_base ho27) hb); have n1_ := Aside0.mk (Kd.R_elder' (by (with_reducible repeat (first | apply Kd.R_alloc | apply Kd.R_drewN | apply Kd.R_drew)); exact HO336.out) (Kd.R_base ho27) hb); have n2_ := Aside0.mk (Kd.R_lower (Kd.R_new' (Kd.R_new' ho27 (Kd.R_lt (by (with_reducible repeat (first | apply Kd.R_alloc | apply Kd.R_drewN | apply Kd.R_drew)); exact HO333.out))) (Kd.R_lt (by (with_reducible repeat (first | apply Kd.R_alloc | apply Kd.R_drewN | apply Kd.R_drew)); exact HO336.out))) (below_size (by repeat (first | (with_reducible first | exact HB.out | apply below_alloc | apply pw_below_drewN | apply below_drew1 | refine below_set ?_ GE329.out) | exact HB.out)))); have n3_ := Aside0.mk (blk_below (g := gb329) (o := .cells #[.int .i64 a0_0, .slice A0_1 l0_1.length c0_1] 24 (0, 0)) (by (with_reducible repeat (first | refine blk_drewN ?_ _ | refine blk_drew ?_ | refine blk_alloc ?_ _)); exact BK329.out) hb); have n4_ := Aside0.mk (below_step (by repeat (first | (with_reducible first | exact HB.out | apply below_alloc | apply pw_below_drewN | apply below_drew1 | refine below_set ?_ GE329.out) | exact HB.out)) hb); clear HO333; clear HO336; clear BK329; clear HB; have HO333 := n0_; have HO336 := n1_; have HO341 := n2_; have BK329 := n3_; have HB := n4_; clear n0_ n1_ n2_ n3_ n4_; clear hb ho27))
       go_loopg [49] k (fun kq v49 w' => ∃ (x6_1 : List Int) (x49_1 : Int), v49 = .int .i64 x49_1 ∧ Aside0 (compasslaw04_WalkAcyclic.l0 kq x6_1 t331 (t331.length : Int) x49_1 a0_0 l0_1 = some r) ∧ Aside0 (kq ≤ k) ∧ Aside0 (Kd.R (Kd.int .i64) 3 w' w.heap.size (fun k_ => some k_ ≠ ((.slice Ao24 t331.length co24) : Value).ownBlock) v340 x6_1) ∧ Aside0 (Kd.R (Kd.int .i64) 3 w' w.heap.size (fun k_ => some k_ ≠ (v340 : Value).ownBlock) (.slice Ao24 t331.length co24) t331) ∧ Aside0 (w'.heap[gb329]? = some (.cells #[.int .i64 a0_0, (.slice A0_1 l0_1.length c0_1)] 24 (0, 0))) ∧ Aside0 (Below w.heap.size w w'))
       case atStart => exact ⟨(y339), (0), (by first | rfl | (simp; done) | (simp [*]; done)), H', ⟨Nat.le_refl _⟩, ⟨by (with_reducible repeat (first | apply Kd.R_alloc | apply Kd.R_drewN | apply Kd.R_drew)); exact Kd.R_mono HO341.out (fun _ hk => hk.1.2)⟩, ⟨by (with_reducible repeat (first | apply Kd.R_alloc | apply Kd.R_drewN | apply Kd.R_drew)); exact Kd.R_mono HO333.out (fun _ hk => hk.2)⟩, ⟨by (with_reducible repeat (first | refine blk_drewN ?_ _ | refine blk_drew ?_ | refine blk_alloc ?_ _)); exact BK329.out⟩, ⟨by repeat (first | (with_reducible first | exact HB.out | apply below_alloc | apply pw_below_drewN | apply below_drew1 | refine below_set ?_ GE329.out) | exact HB.out)⟩⟩
       case round =>
        clear H'
        try clear c1; try clear p2; try clear c3; try clear c5; try clear c5b0; try clear c5b1; try clear c6; try clear c6b0; try clear c6b1; try clear c6b2; try clear c16; try clear c16b0; try clear c16b1; try clear c17; try clear c17b0; try clear c17b1; try clear c18; try clear c18b0; try clear c18b1; try clear c19; try clear c19b0; try clear c19b1; try clear hcz10_0; try clear hcz10_1; try clear hcz13_0; try clear hcz13_1; try clear hcz22_0; try clear hcz22_1; try clear hcz25_0; try clear hcz25_1; try clear hfz10_0; try clear hfz10_1; try clear hfz13_0; try clear hfz13_1; try clear hfz22_0; try clear hfz22_1; try clear hfz25_0; try clear hfz25_1
        obtain ⟨x6_1, x49_1, rfl, HA, HK1, HO_6, HO_47, BK329, HB⟩ := hrel
        cases gk with
        | zero => exact absurd HA.out (by simp [compasslaw04_WalkAcyclic.l0])
        | succ k1 =>
         have H := HA.out
         clear HA
         simp only [compasslaw04_WalkAcyclic.l0] at H
         by_cases c28 : x49_1 < (t331.length : Int)
         ·
          rw [if_pos c28] at H
          have c28b0 : decide (x49_1 < (t331.length : Int)) = true := decide_eq_true c28
          clear c28
          by_cases c29 : 0 ≤ x49_1
          ·
           rw [if_pos c29] at H
           have c29b0 : decide (0 ≤ x49_1) = true := decide_eq_true c29
           clear c29
           by_cases c30 : x49_1 < (t331.length : Int)
           ·
            rw [if_pos c30] at H
            have c30b0 : decide (x49_1 < (t331.length : Int)) = true := decide_eq_true c30
            clear c30
            by_cases c31 : (rd t331 x49_1) < 0
            ·
             rw [if_pos c31] at H
             have c31b0 : decide ((rd t331 x49_1) < 0) = true := decide_eq_true c31
             clear c31
             exact absurd ((Option.some.inj H).trans HR_.out) (by decide)
            ·
             rw [if_neg c31] at H
             have c31b0 : decide ((rd t331 x49_1) < 0) = false := decide_eq_false c31
             clear c31
             by_cases c32 : (rd t331 x49_1) ≥ a0_0
             ·
              rw [if_pos c32] at H
              have c32b0 : decide (a0_0 ≤ (rd t331 x49_1)) = true := decide_eq_true c32
              clear c32
              exact absurd ((Option.some.inj H).trans HR_.out) (by decide)
             ·
              rw [if_neg c32] at H
              have c32b0 : decide (a0_0 ≤ (rd t331 x49_1)) = false := decide_eq_false c32
              clear c32
              by_cases c33 : 0 ≤ (rd t331 x49_1)
              ·
               rw [if_pos c33] at H
               have c33b0 : decide (0 ≤ (rd t331 x49_1)) = true := decide_eq_true c33
               clear c33
               by_cases c34 : (rd t331 x49_1) < (x6_1.length : Int)
               ·
                rw [if_pos c34] at H
                have c34b0 : decide ((rd t331 x49_1) < (x6_1.length : Int)) = true := decide_eq_true c34
                clear c34
                by_cases c35 : (rd x6_1 (rd t331 x49_1)) = 0
                ·
                 rw [if_pos c35] at H
                 have c35b0 : ((rd x6_1 (rd t331 x49_1)) == 0) = true := beq_iff_eq.mpr c35
                 have c35b1 : ((rd x6_1 (rd t331 x49_1)) != 0) = false := bne_eq_false_iff_eq.mpr c35
                 clear c35
                 obtain ⟨y344, hy344⟩ : ∃ y_ : List Int, y_ = (x6_1.set ((rd t331 x49_1) : Int).toNat (wrap64 (x49_1 + 1))) := ⟨_, rfl⟩
                 replace H : (compasslaw04_WalkAcyclic.l0 k1 y344 t331 (t331.length : Int) (wrap64 (x49_1 + 1)) a0_0 l0_1) = some r := by first | (rw [hy344]; with_reducible exact H) | (have H2_ := (Option.bind_some _ _).symm.trans H; rw [hy344]; with_reducible exact H2_) | (have H2_ := (Option.bind_some _ _).symm.trans H; with_reducible exact H2_) | with_reducible exact H | (rw [hy344]; exact H) | exact H
                 have Ny344 := Aside0.mk hy344
                 clear hy344
                 have H' := Aside0.mk H
                 clear H
                 have p342 : 0 ≤ (x49_1 : Int) := of_decide_eq_true (by first | (with_reducible assumption) | assumption)
                 have q342 : x49_1 < (t331.length : Int) := of_decide_eq_true (by first | (with_reducible assumption) | assumption)
                 obtain ⟨ad342, e342, hx342_0⟩ := Kd.at_int (Kd.R_reads' HO_47.out).2.2 x49_1 p342 q342
                 cases e342
                 replace p342 := eq_true p342
                 replace q342 := eq_true q342
                 have hcz37_0 : wr.cell? ⟨gb329, 0, none⟩ = some (.int .i64 a0_0) := (blk_cell BK329.out 0).trans rfl
                 have hcz37_1 : wr.cell? ⟨gb329, 1, none⟩ = some (.slice A0_1 l0_1.length c0_1) := (blk_cell BK329.out 1).trans rfl
                 have hfz37_0 := blk_frozen BK329.out 0
                 have hfz37_1 := blk_frozen BK329.out 1
                 obtain ⟨Ao38, co38, eo38⟩ := Kd.R_slice HO_6.out
                 subst eo38
                 have p343 : 0 ≤ ((rd t331 x49_1) : Int) := of_decide_eq_true (by first | (with_reducible assumption) | assumption)
                 have q343 : (rd t331 x49_1) < (x6_1.length : Int) := of_decide_eq_true (by first | (with_reducible assumption) | assumption)
                 obtain ⟨ad343, e343, hx343_0⟩ := Kd.at_int (Kd.R_reads' HO_6.out).2.2 (rd t331 x49_1) p343 q343
                 cases e343
                 replace p343 := eq_true p343
                 replace q343 := eq_true q343
                 have p36 : 0 ≤ ((rd t331 x49_1) : Int) := of_decide_eq_true (by first | (with_reducible assumption) | assumption)
                 have q36 : ((rd t331 x49_1) : Int) < ((x6_1.length : Int) : Int) := of_decide_eq_true (by first | (with_reducible assumption) | assumption)
                 obtain ⟨go36, co36, eo36, gb36, gl36, cl36, HG36⟩ := Kd.R_form HO_6.out (by omega)
                 (first | cases eo36 | (injection eo36 with ea_ en_ ec_; (first | subst ea_ | (injection ea_ with ea_; subst ea_)); subst ec_; clear en_))
                 have GB36 := Aside0.mk gb36
                 have GG36 := Aside0.mk HG36
                 clear gb36 gl36 HG36
                 (first | simp only [add_plain] at hx343_0 | skip)
                 obtain ⟨hx36_0, hf36_0⟩ := Kd.R_celln 0 HO_6.out ((rd t331 x49_1) : Int) p36 q36
                 replace p36 := eq_true p36
                 replace q36 := eq_true q36
                 have HP39 := Kd.R_putg HO_6.out ((rd t331 x49_1) : Int) (wrap64 (x49_1 + 1))
                 go_wp2_with (first | ((with_reducible refine gate_store (t := 3) (p := 73) rfl ?_); (try (rw [drewN_self wr]; generalize hq_ : World.drewN wr _ = wr; have n0_ := Aside0.mk (Kd.R_at hq_ HO_6.out); have n1_ := Aside0.mk (Kd.R_at hq_ HO_47.out); have n2_ := Aside0.mk (blk_at hq_ BK329.out); have n3_ := Aside0.mk (below_at hq_ HB.out); clear hq_ HO_6 HO_47 BK329 HB; have HO_6 := n0_; have HO_47 := n1_; have BK329 := n2_; have HB := n3_; clear n0_ n1_ n2_ n3_; (try (have HP39 := Kd.R_putg HO_6.out ((rd t331 x49_1) : Int) (wrap64 (x49_1 + 1)))))); refine store_event (t := 3) (p := 73) (v := ?vo_w40) (w1 := (wr.setCell ⟨go36, ((rd t331 x49_1) : Int).toNat, none⟩ (.int .i64 (wrap64 (x49_1 + 1))))) ?hg ?ho ?hn ?hr ?_; (case ho => rfl); (case hg => rfl); (case hn => rfl); (case hr => first | (go_simp; done) | (go_simp; rfl)); intro w40 hw; have hg : wr.grownBy w40 (some go36) := (by rw [hw]; exact HP39.2); have hp_ : Kd.R (Kd.int .i64) 3 w40 w.heap.size (fun k_ => some k_ ≠ (.slice (some ad342) t331.length co24 : Value).ownBlock) (.slice (some ⟨go36, 0, none⟩) x6_1.length co38) y344 := (by rw [hw, Ny344.out]; exact HP39.1); clear HP39; have n0_ := Aside0.mk (hp_); have n1_ := Aside0.mk (Kd.R_after (v := (.slice (some ⟨go36, 0, none⟩) x6_1.length co38)) (v1 := (.slice (some ⟨go36, 0, none⟩) x6_1.length co38)) (ok := (fun _ => True)) (by (with_reducible repeat (first | apply Kd.R_alloc | apply Kd.R_drewN | apply Kd.R_drew)); exact Kd.R_mono HO_47.out (fun _ hk => ⟨trivial, hk⟩)) hg (.inl rfl)); have n2_ := Aside0.mk (blk_grown (g := gb329) (o := .cells #[.int .i64 a0_0, .slice A0_1 l0_1.length c0_1] 24 (0, 0)) (by (with_reducible repeat (first | refine blk_drewN ?_ _ | refine blk_drew ?_ | refine blk_alloc ?_ _)); exact BK329.out) hg (Kd.R_ne HO_6.out BK329.out (by decide))); have n3_ := Aside0.mk ((by rw [hw]; exact below_set (HB.out) GB36.out : Below w.heap.size w w40)); clear HO_6; clear HO_47; clear BK329; clear HB; have HO_6 := n0_; have HO_47 := n1_; have BK329 := n2_; have HB := n3_; clear n0_ n1_ n2_ n3_; clear hg hw hp_))
                 go_roundg k1
                 case measure => have := HK1.out; omega
                 case rel => exact ⟨(y344), (wrap64 (x49_1 + 1)), (by first | rfl | (simp; done) | (simp [*]; done)), H', ⟨by have := HK1.out; omega⟩, ⟨by (with_reducible repeat (first | apply Kd.R_alloc | apply Kd.R_drewN | apply Kd.R_drew)); exact HO_6.out⟩, ⟨by (with_reducible repeat (first | apply Kd.R_alloc | apply Kd.R_drewN | apply Kd.R_drew)); exact Kd.R_mono HO_47.out (fun _ hk => hk.2)⟩, ⟨by (with_reducible repeat (first | refine blk_drewN ?_ _ | refine blk_drew ?_ | refine blk_alloc ?_ _)); exact BK329.out⟩, ⟨by repeat (first | (with_reducible first | exact HB.out | apply below_alloc | apply pw_below_drewN | apply below_drew1 | refine below_set ?_ GE329.out) | exact HB.out)⟩⟩
                ·
                 rw [if_neg c35] at H
                 have c35b0 : ((rd x6_1 (rd t331 x49_1)) == 0) = false := beq_eq_false_iff_ne.mpr c35
                 have c35b1 : ((rd x6_1 (rd t331 x49_1)) != 0) = true := bne_iff_ne.mpr c35
                 exact absurd ((Option.some.inj H).trans HR_.out) (by decide)
               ·
                rw [if_neg c34] at H
                exact absurd H (by simp)
              ·
               rw [if_neg c33] at H
               exact absurd H (by simp)
           ·
            rw [if_neg c30] at H
            exact absurd H (by simp)
          ·
           rw [if_neg c29] at H
           exact absurd H (by simp)
         ·
          rw [if_neg c28] at H
          have c28b0 : decide (x49_1 < (t331.length : Int)) = false := decide_eq_false c28
          clear c28
          have H' := Aside0.mk H
          clear H
          have hcz41_0 : wr.cell? ⟨gb329, 0, none⟩ = some (.int .i64 a0_0) := (blk_cell BK329.out 0).trans rfl
          have hcz41_1 : wr.cell? ⟨gb329, 1, none⟩ = some (.slice A0_1 l0_1.length c0_1) := (blk_cell BK329.out 1).trans rfl
          have hfz41_0 := blk_frozen BK329.out 0
          have hfz41_1 := blk_frozen BK329.out 1
          go_wp2
          repeat (go_quiet (fail); try go_wp2)
          go_loopg [78] k1 (fun kq v78 w' => ∃ (x78_2 : Int), v78 = .int .i64 x78_2 ∧ Aside0 (compasslaw04_WalkAcyclic.l1 kq x6_1 l0_1 (l0_1.length : Int) x78_2 = some r) ∧ Aside0 (kq ≤ k1) ∧ Aside0 (Kd.R (Kd.int .i64) 3 w' w.heap.size (fun _ => True) v340 x6_1) ∧ Aside0 (w'.heap[gb329]? = some (.cells #[.int .i64 a0_0, (.slice A0_1 l0_1.length c0_1)] 24 (0, 0))) ∧ Aside0 (Below w.heap.size w w'))
          case atStart => exact ⟨(0), (by first | rfl | (simp; done) | (simp [*]; done)), H', ⟨Nat.le_refl _⟩, ⟨by (with_reducible repeat (first | apply Kd.R_alloc | apply Kd.R_drewN | apply Kd.R_drew)); exact Kd.R_mono HO_6.out (fun _ hk => trivial)⟩, ⟨by (with_reducible repeat (first | refine blk_drewN ?_ _ | refine blk_drew ?_ | refine blk_alloc ?_ _)); exact BK329.out⟩, ⟨by repeat (first | (with_reducible first | exact HB.out | apply below_alloc | apply pw_below_drewN | apply below_drew1 | refine below_set ?_ GE329.out) | exact HB.out)⟩⟩
          case round =>
           clear H'
           try clear c1; try clear c2; try clear p2; try clear c3; try clear p3; try clear q3; try clear hx3; try clear hf3; try clear c5; try clear c5b0; try clear c5b1; try clear c6; try clear c6b0; try clear c6b1; try clear c6b2; try clear p6; try clear c16; try clear c16b0; try clear c16b1; try clear c17; try clear c17b0; try clear c17b1; try clear c18; try clear c18b0; try clear c18b1; try clear c19; try clear c19b0; try clear c19b1; try clear c28; try clear c28b0; try clear c29; try clear c29b0; try clear c30; try clear c30b0; try clear c31; try clear c31b0; try clear c32; try clear c32b0; try clear c33; try clear c33b0; try clear c34; try clear c34b0; try clear p34; try clear q34; try clear hx34; try clear c35; try clear c35b0; try clear c35b1; try clear p36; try clear q36; try clear hx36; try clear hf36; try clear hcz10_0; try clear hcz10_1; try clear hcz13_0; try clear hcz13_1; try clear hcz22_0; try clear hcz22_1; try clear hcz25_0; try clear hcz25_1; try clear hcz37_0; try clear hcz37_1; try clear hcz41_0; try clear hcz41_1; try clear hfz10_0; try clear hfz10_1; try clear hfz13_0; try clear hfz13_1; try clear hfz22_0; try clear hfz22_1; try clear hfz25_0; try clear hfz25_1; try clear hfz37_0; try clear hfz37_1; try clear hfz41_0; try clear hfz41_1; try clear hx342_0; try clear hx343_0; try clear hx36_0; try clear p2; try clear p342; try clear p343; try clear p36; try clear q342; try clear q343; try clear q36
           obtain ⟨x78_2, rfl, HA, HK2, HO_6, BK329, HB⟩ := hrel
           cases gk with
           | zero => exact absurd HA.out (by simp [compasslaw04_WalkAcyclic.l1])
           | succ k2 =>
            have H := HA.out
            clear HA
            simp only [compasslaw04_WalkAcyclic.l1] at H
            by_cases c42 : x78_2 < (l0_1.length : Int)
            ·
             rw [if_pos c42] at H
             have c42b0 : decide (x78_2 < (l0_1.length : Int)) = true := decide_eq_true c42
             clear c42
             by_cases c43 : 0 ≤ x78_2
             ·
              rw [if_pos c43] at H
              have c43b0 : decide (0 ≤ x78_2) = true := decide_eq_true c43
              clear c43
              by_cases c44 : x78_2 < (l0_1.length : Int)
              ·
               rw [if_pos c44] at H
               have c44b0 : decide (x78_2 < (l0_1.length : Int)) = true := decide_eq_true c44
               clear c44
               by_cases c45 : 0 ≤ ((rd_T41 l0_1 x78_2).f0)
               ·
                rw [if_pos c45] at H
                have c45b0 : decide (0 ≤ ((rd_T41 l0_1 x78_2).f0)) = true := decide_eq_true c45
                clear c45
                by_cases c46 : ((rd_T41 l0_1 x78_2).f0) < (x6_1.length : Int)
                ·
                 rw [if_pos c46] at H
                 have c46b0 : decide (((rd_T41 l0_1 x78_2).f0) < (x6_1.length : Int)) = true := decide_eq_true c46
                 clear c46
                 by_cases c47 : 0 ≤ ((rd_T41 l0_1 x78_2).f1)
                 ·
                  rw [if_pos c47] at H
                  have c47b0 : decide (0 ≤ ((rd_T41 l0_1 x78_2).f1)) = true := decide_eq_true c47
                  clear c47
                  by_cases c48 : ((rd_T41 l0_1 x78_2).f1) < (x6_1.length : Int)
                  ·
                   rw [if_pos c48] at H
                   have c48b0 : decide (((rd_T41 l0_1 x78_2).f1) < (x6_1.length : Int)) = true := decide_eq_true c48
                   clear c48
                   by_cases c49 : (rd x6_1 ((rd_T41 l0_1 x78_2).f0)) ≥ (rd x6_1 ((rd_T41 l0_1 x78_2).f1))
                   ·
                    rw [if_pos c49] at H
                    have c49b0 : decide ((rd x6_1 ((rd_T41 l0_1 x78_2).f1)) ≤ (rd x6_1 ((rd_T41 l0_1 x78_2).f0))) = true := decide_eq_true c49
                    clear c49
                    exact absurd ((Option.some.inj H).trans HR_.out) (by decide)
                   ·
                    rw [if_neg c49] at H
                    have c49b0 : decide ((rd x6_1 ((rd_T41 l0_1 x78_2).f1)) ≤ (rd x6_1 ((rd_T41 l0_1 x78_2).f0))) = false := decide_eq_false c49
                    clear c49
                    have H' := Aside0.mk H
                    clear H
                    have p345 : 0 ≤ (x78_2 : Int) := of_decide_eq_true (by first | (with_reducible assumption) | assumption)
                    have q345 : x78_2 < (l0_1.length : Int) := of_decide_eq_true (by first | (with_reducible assumption) | assumption)
                    obtain ⟨ad345, e345, hx345_0, hx345_1, hx345_2, hx345_3⟩ := at_T41 HR0_1.out x78_2 p345 q345
                    cases e345
                    (try replace hx345_0 := (HB.out.cell (World.block_lt_of_cell? w _ hx345_0)).trans hx345_0)
                    (try replace hx345_1 := (HB.out.cell (World.block_lt_of_cell? w _ hx345_1)).trans hx345_1)
                    (try replace hx345_2 := (HB.out.cell (World.block_lt_of_cell? w _ hx345_2)).trans hx345_2)
                    (try replace hx345_3 := (HB.out.cell (World.block_lt_of_cell? w _ hx345_3)).trans hx345_3)
                    replace p345 := eq_true p345
                    replace q345 := eq_true q345
                    go_wp2_with (first | ((with_reducible refine gate_dst (N := 10) rfl ?_); (try (refine gate_guard (by rfl) ?_; dsimp only)); refine box_event ?hg (N := 10) ?hd (cs := #[.int .i64 0, .int .i64 0, .int .i64 0, .int .i64 0]) (t := 41) ?hr ?_; (case hd => rfl); (case hg => rfl); (case hr => first | (go_simp; done) | (go_simp; rfl)); intro gb346 hg w50 hbox hb; have n0_ := Aside0.mk (Kd.R_below (by (with_reducible repeat (first | apply Kd.R_alloc | apply Kd.R_drewN | apply Kd.R_drew)); exact HO_6.out) hb); have n1_ := Aside0.mk (blk_below (g := gb329) (o := .cells #[.int .i64 a0_0, .slice (some ad345) l0_1.length c0_1] 24 (0, 0)) (by (with_reducible repeat (first | refine blk_drewN ?_ _ | refine blk_drew ?_ | refine blk_alloc ?_ _)); exact BK329.out) hb); have n2_ := Aside0.mk (below_step (by repeat (first | (with_reducible first | exact HB.out | apply below_alloc | apply pw_below_drewN | apply below_drew1 | refine below_set ?_ GE329.out) | exact HB.out)) hb); have n3_ := Aside0.mk (hbox); have n4_ := Aside0.mk ((by rw [hg]; exact (below_size (by repeat (first | (with_reducible first | exact HB.out | apply below_alloc | apply pw_below_drewN | apply below_drew1 | refine below_set ?_ GE329.out) | exact HB.out))) : w.heap.size ≤ gb346)); have n5_ := Aside0.mk ((by rw [hg]; exact (below_size (by repeat (first | (with_reducible first | exact HB.out | apply below_alloc | apply pw_below_drewN | apply below_drew1 | refine below_set ?_ GE329.out) | exact HB.out))) : w.heap.size ≤ gb346)); have n6_ := Aside0.mk ((by rw [hg]; exact Nat.ne_of_lt (blk_lt (g := gb329) (o := .cells #[.int .i64 a0_0, .slice (some ad345) l0_1.length c0_1] 24 (0, 0)) (by (with_reducible repeat (first | refine blk_drewN ?_ _ | refine blk_drew ?_ | refine blk_alloc ?_ _)); exact BK329.out)) : gb329 ≠ gb346)); have n7_ := Aside0.mk ((by rw [hg]; exact Nat.ne_of_gt (blk_lt (g := gb329) (o := .cells #[.int .i64 a0_0, .slice (some ad345) l0_1.length c0_1] 24 (0, 0)) (by (with_reducible repeat (first | refine blk_drewN ?_ _ | refine blk_drew ?_ | refine blk_alloc ?_ _)); exact BK329.out)) : gb346 ≠ gb329)); clear HO_6; clear BK329; clear HB; have HO_6 := n0_; have BK329 := n1_; have HB := n2_; have BK346 := n3_; have GW346 := n4_; have GE346 := n5_; have NB329_346 := n6_; have NB346_329 := n7_; clear n0_ n1_ n2_ n3_ n4_ n5_ n6_ n7_; clear hb hbox hg; have hnb51 := NB346_329.out; have hnc51 := NB329_346.out; have hcz52_0 : w50.cell? ⟨gb346, 0, none⟩ = some (.int .i64 0) := (blk_cell BK346.out 0).trans rfl; have hcz52_1 : w50.cell? ⟨gb346, 1, none⟩ = some (.int .i64 0) := (blk_cell BK346.out 1).trans rfl; have hcz52_2 : w50.cell? ⟨gb346, 2, none⟩ = some (.int .i64 0) := (blk_cell BK346.out 2).trans rfl; have hcz52_3 : w50.cell? ⟨gb346, 3, none⟩ = some (.int .i64 0) := (blk_cell BK346.out 3).trans rfl; have hfz52_0 := blk_frozen BK346.out 0; have hfz52_1 := blk_frozen BK346.out 1; have hfz52_2 := blk_frozen BK346.out 2; have hfz52_3 := blk_frozen BK346.out 3; obtain ⟨Ao53, co53, eo53⟩ := Kd.R_slice HO_6.out; subst eo53; have p347 : 0 ≤ (((rd_T41 l0_1 x78_2).f0) : Int) := of_decide_eq_true (by first | (with_reducible assumption) | assumption); have q347 : ((rd_T41 l0_1 x78_2).f0) < (x6_1.length : Int) := of_decide_eq_true (by first | (with_reducible assumption) | assumption); obtain ⟨ad347, e347, hx347_0⟩ := Kd.at_int (Kd.R_reads' HO_6.out).2.2 ((rd_T41 l0_1 x78_2).f0) p347 q347; cases e347; have hn347_0 : ad347.block ≠ gb346 := Kd.own_blk (Kd.R_ne HO_6.out BK346.out (by decide)); have hn347_1 : ad347.block ≠ gb346 := Kd.own_blk (Kd.R_ne HO_6.out BK346.out (by decide)); have hn347_2 : ad347.block ≠ gb346 := Kd.own_blk (Kd.R_ne HO_6.out BK346.out (by decide)); have hn347_3 : ad347.block ≠ gb346 := Kd.own_blk (Kd.R_ne HO_6.out BK346.out (by decide)); replace hx347_0 := (cell_far (p := ⟨gb346, 0, none⟩) (by first | (rw [add_block]; exact hn347_0) | (show (Addr.add _ _).block ≠ _; rw [add_block]; exact hn347_0) | exact hn347_0) (.int .i64 ((rd_T41 l0_1 x78_2).f0))).trans hx347_0; replace hx347_0 := (cell_far (p := ⟨gb346, 1, none⟩) (by first | (rw [add_block]; exact hn347_1) | (show (Addr.add _ _).block ≠ _; rw [add_block]; exact hn347_1) | exact hn347_1) (.int .i64 ((rd_T41 l0_1 x78_2).f1))).trans hx347_0; replace hx347_0 := (cell_far (p := ⟨gb346, 2, none⟩) (by first | (rw [add_block]; exact hn347_2) | (show (Addr.add _ _).block ≠ _; rw [add_block]; exact hn347_2) | exact hn347_2) (.int .i64 ((rd_T41 l0_1 x78_2).f2))).trans hx347_0; replace hx347_0 := (cell_far (p := ⟨gb346, 3, none⟩) (by first | (rw [add_block]; exact hn347_3) | (show (Addr.add _ _).block ≠ _; rw [add_block]; exact hn347_3) | exact hn347_3) (.int .i64 ((rd_T41 l0_1 x78_2).f3))).trans hx347_0; (try have hy347_0 := fun (n_ : Nat) => (show ((((((w50.drewN n_).setCell ⟨gb346, 0, none⟩ (.int .i64 ((rd_T41 l0_1 x78_2).f0))).setCell ⟨gb346, 1, none⟩ (.int .i64 ((rd_T41 l0_1 x78_2).f1))).setCell ⟨gb346, 2, none⟩ (.int .i64 ((rd_T41 l0_1 x78_2).f2))).setCell ⟨gb346, 3, none⟩ (.int .i64 ((rd_T41 l0_1 x78_2).f3)))).cell? _ = some _ from hx347_0)); clear hn347_0; clear hn347_1; clear hn347_2; clear hn347_3; replace p347 := eq_true p347; replace q347 := eq_true q347; have p348 : 0 ≤ (((rd_T41 l0_1 x78_2).f1) : Int) := of_decide_eq_true (by first | (with_reducible assumption) | assumption); have q348 : ((rd_T41 l0_1 x78_2).f1) < (x6_1.length : Int) := of_decide_eq_true (by first | (with_reducible assumption) | assumption); obtain ⟨ad348, e348, hx348_0⟩ := Kd.at_int (Kd.R_reads' HO_6.out).2.2 ((rd_T41 l0_1 x78_2).f1) p348 q348; obtain rfl : ad347 = ad348 := (by injection e348); have hn348_0 : ad347.block ≠ gb346 := Kd.own_blk (Kd.R_ne HO_6.out BK346.out (by decide)); have hn348_1 : ad347.block ≠ gb346 := Kd.own_blk (Kd.R_ne HO_6.out BK346.out (by decide)); have hn348_2 : ad347.block ≠ gb346 := Kd.own_blk (Kd.R_ne HO_6.out BK346.out (by decide)); have hn348_3 : ad347.block ≠ gb346 := Kd.own_blk (Kd.R_ne HO_6.out BK346.out (by decide)); replace hx348_0 := (cell_far (p := ⟨gb346, 0, none⟩) (by first | (rw [add_block]; exact hn348_0) | (show (Addr.add _ _).block ≠ _; rw [add_block]; exact hn348_0) | exact hn348_0) (.int .i64 ((rd_T41 l0_1 x78_2).f0))).trans hx348_0; replace hx348_0 := (cell_far (p := ⟨gb346, 1, none⟩) (by first | (rw [add_block]; exact hn348_1) | (show (Addr.add _ _).block ≠ _; rw [add_block]; exact hn348_1) | exact hn348_1) (.int .i64 ((rd_T41 l0_1 x78_2).f1))).trans hx348_0; replace hx348_0 := (cell_far (p := ⟨gb346, 2, none⟩) (by first | (rw [add_block]; exact hn348_2) | (show (Addr.add _ _).block ≠ _; rw [add_block]; exact hn348_2) | exact hn348_2) (.int .i64 ((rd_T41 l0_1 x78_2).f2))).trans hx348_0; replace hx348_0 := (cell_far (p := ⟨gb346, 3, none⟩) (by first | (rw [add_block]; exact hn348_3) | (show (Addr.add _ _).block ≠ _; rw [add_block]; exact hn348_3) | exact hn348_3) (.int .i64 ((rd_T41 l0_1 x78_2).f3))).trans hx348_0; (try have hy348_0 := fun (n_ : Nat) => (show ((((((w50.drewN n_).setCell ⟨gb346, 0, none⟩ (.int .i64 ((rd_T41 l0_1 x78_2).f0))).setCell ⟨gb346, 1, none⟩ (.int .i64 ((rd_T41 l0_1 x78_2).f1))).setCell ⟨gb346, 2, none⟩ (.int .i64 ((rd_T41 l0_1 x78_2).f2))).setCell ⟨gb346, 3, none⟩ (.int .i64 ((rd_T41 l0_1 x78_2).f3)))).cell? _ = some _ from hx348_0)); clear hn348_0; clear hn348_1; clear hn348_2; clear hn348_3; replace p348 := eq_true p348; replace q348 := eq_true q348))
                    repeat (go_quiet (first | ((with_reducible refine gate_dst (N := 10) rfl ?_); (try (refine gate_guard (by rfl) ?_; dsimp only)); refine box_event ?hg (N := 10) ?hd (cs := #[.int .i64 0, .int .i64 0, .int .i64 0, .int .i64 0]) (t := 41) ?hr ?_; (case hd => rfl); (case hg => rfl); (case hr => first | (go_simp; done) | (go_simp; rfl)); intro gb346 hg w50 hbox hb; have n0_ := Aside0.mk (Kd.R_below (by (with_reducible repeat (first | apply Kd.R_alloc | apply Kd.R_drewN | apply Kd.R_drew)); exact HO_6.out) hb); have n1_ := Aside0.mk (blk_below (g := gb329) (o := .cells #[.int .i64 a0_0, .slice (some ad345) l0_1.length c0_1] 24 (0, 0)) (by (with_reducible repeat (first | refine blk_drewN ?_ _ | refine blk_drew ?_ | refine blk_alloc ?_ _)); exact BK329.out) hb); have n2_ := Aside0.mk (below_step (by repeat (first | (with_reducible first | exact HB.out | apply below_alloc | apply pw_below_drewN | apply below_drew1 | refine below_set ?_ GE329.out) | exact HB.out)) hb); have n3_ := Aside0.mk (hbox); have n4_ := Aside0.mk ((by rw [hg]; exact (below_size (by repeat (first | (with_reducible first | exact HB.out | apply below_alloc | apply pw_below_drewN | apply below_drew1 | refine below_set ?_ GE329.out) | exact HB.out))) : w.heap.size ≤ gb346)); have n5_ := Aside0.mk ((by rw [hg]; exact (below_size (by repeat (first | (with_reducible first | exact HB.out | apply below_alloc | apply pw_below_drewN | apply below_drew1 | refine below_set ?_ GE329.out) | exact HB.out))) : w.heap.size ≤ gb346)); have n6_ := Aside0.mk ((by rw [hg]; exact Nat.ne_of_lt (blk_lt (g := gb329) (o := .cells #[.int .i64 a0_0, .slice (some ad345) l0_1.length c0_1] 24 (0, 0)) (by (with_reducible repeat (first | refine blk_drewN ?_ _ | refine blk_drew ?_ | refine blk_alloc ?_ _)); exact BK329.out)) : gb329 ≠ gb346)); have n7_ := Aside0.mk ((by rw [hg]; exact Nat.ne_of_gt (blk_lt (g := gb329) (o := .cells #[.int .i64 a0_0, .slice (some ad345) l0_1.length c0_1] 24 (0, 0)) (by (with_reducible repeat (first | refine blk_drewN ?_ _ | refine blk_drew ?_ | refine blk_alloc ?_ _)); exact BK329.out)) : gb346 ≠ gb329)); clear HO_6; clear BK329; clear HB; have HO_6 := n0_; have BK329 := n1_; have HB := n2_; have BK346 := n3_; have GW346 := n4_; have GE346 := n5_; have NB329_346 := n6_; have NB346_329 := n7_; clear n0_ n1_ n2_ n3_ n4_ n5_ n6_ n7_; clear hb hbox hg; have hnb51 := NB346_329.out; have hnc51 := NB329_346.out; have hcz52_0 : w50.cell? ⟨gb346, 0, none⟩ = some (.int .i64 0) := (blk_cell BK346.out 0).trans rfl; have hcz52_1 : w50.cell? ⟨gb346, 1, none⟩ = some (.int .i64 0) := (blk_cell BK346.out 1).trans rfl; have hcz52_2 : w50.cell? ⟨gb346, 2, none⟩ = some (.int .i64 0) := (blk_cell BK346.out 2).trans rfl; have hcz52_3 : w50.cell? ⟨gb346, 3, none⟩ = some (.int .i64 0) := (blk_cell BK346.out 3).trans rfl; have hfz52_0 := blk_frozen BK346.out 0; have hfz52_1 := blk_frozen BK346.out 1; have hfz52_2 := blk_frozen BK346.out 2; have hfz52_3 := blk_frozen BK346.out 3; obtain ⟨Ao53, co53, eo53⟩ := Kd.R_slice HO_6.out; subst eo53; have p347 : 0 ≤ (((rd_T41 l0_1 x78_2).f0) : Int) := of_decide_eq_true (by first | (with_reducible assumption) | assumption); have q347 : ((rd_T41 l0_1 x78_2).f0) < (x6_1.length : Int) := of_decide_eq_true (by first | (with_reducible assumption) | assumption); obtain ⟨ad347, e347, hx347_0⟩ := Kd.at_int (Kd.R_reads' HO_6.out).2.2 ((rd_T41 l0_1 x78_2).f0) p347 q347; cases e347; have hn347_0 : ad347.block ≠ gb346 := Kd.own_blk (Kd.R_ne HO_6.out BK346.out (by decide)); have hn347_1 : ad347.block ≠ gb346 := Kd.own_blk (Kd.R_ne HO_6.out BK346.out (by decide)); have hn347_2 : ad347.block ≠ gb346 := Kd.own_blk (Kd.R_ne HO_6.out BK346.out (by decide)); have hn347_3 : ad347.block ≠ gb346 := Kd.own_blk (Kd.R_ne HO_6.out BK346.out (by decide)); replace hx347_0 := (cell_far (p := ⟨gb346, 0, none⟩) (by first | (rw [add_block]; exact hn347_0) | (show (Addr.add _ _).block ≠ _; rw [add_block]; exact hn347_0) | exact hn347_0) (.int .i64 ((rd_T41 l0_1 x78_2).f0))).trans hx347_0; replace hx347_0 := (cell_far (p := ⟨gb346, 1, none⟩) (by first | (rw [add_block]; exact hn347_1) | (show (Addr.add _ _).block ≠ _; rw [add_block]; exact hn347_1) | exact hn347_1) (.int .i64 ((rd_T41 l0_1 x78_2).f1))).trans hx347_0; replace hx347_0 := (cell_far (p := ⟨gb346, 2, none⟩) (by first | (rw [add_block]; exact hn347_2) | (show (Addr.add _ _).block ≠ _; rw [add_block]; exact hn347_2) | exact hn347_2) (.int .i64 ((rd_T41 l0_1 x78_2).f2))).trans hx347_0; replace hx347_0 := (cell_far (p := ⟨gb346, 3, none⟩) (by first | (rw [add_block]; exact hn347_3) | (show (Addr.add _ _).block ≠ _; rw [add_block]; exact hn347_3) | exact hn347_3) (.int .i64 ((rd_T41 l0_1 x78_2).f3))).trans hx347_0; (try have hy347_0 := fun (n_ : Nat) => (show ((((((w50.drewN n_).setCell ⟨gb346, 0, none⟩ (.int .i64 ((rd_T41 l0_1 x78_2).f0))).setCell ⟨gb346, 1, none⟩ (.int .i64 ((rd_T41 l0_1 x78_2).f1))).setCell ⟨gb346, 2, none⟩ (.int .i64 ((rd_T41 l0_1 x78_2).f2))).setCell ⟨gb346, 3, none⟩ (.int .i64 ((rd_T41 l0_1 x78_2).f3)))).cell? _ = some _ from hx347_0)); clear hn347_0; clear hn347_1; clear hn347_2; clear hn347_3; replace p347 := eq_true p347; replace q347 := eq_true q347; have p348 : 0 ≤ (((rd_T41 l0_1 x78_2).f1) : Int) := of_decide_eq_true (by first | (with_reducible assumption) | assumption); have q348 : ((rd_T41 l0_1 x78_2).f1) < (x6_1.length : Int) := of_decide_eq_true (by first | (with_reducible assumption) | assumption); obtain ⟨ad348, e348, hx348_0⟩ := Kd.at_int (Kd.R_reads' HO_6.out).2.2 ((rd_T41 l0_1 x78_2).f1) p348 q348; obtain rfl : ad347 = ad348 := (by injection e348); have hn348_0 : ad347.block ≠ gb346 := Kd.own_blk (Kd.R_ne HO_6.out BK346.out (by decide)); have hn348_1 : ad347.block ≠ gb346 := Kd.own_blk (Kd.R_ne HO_6.out BK346.out (by decide)); have hn348_2 : ad347.block ≠ gb346 := Kd.own_blk (Kd.R_ne HO_6.out BK346.out (by decide)); have hn348_3 : ad347.block ≠ gb346 := Kd.own_blk (Kd.R_ne HO_6.out BK346.out (by decide)); replace hx348_0 := (cell_far (p := ⟨gb346, 0, none⟩) (by first | (rw [add_block]; exact hn348_0) | (show (Addr.add _ _).block ≠ _; rw [add_block]; exact hn348_0) | exact hn348_0) (.int .i64 ((rd_T41 l0_1 x78_2).f0))).trans hx348_0; replace hx348_0 := (cell_far (p := ⟨gb346, 1, none⟩) (by first | (rw [add_block]; exact hn348_1) | (show (Addr.add _ _).block ≠ _; rw [add_block]; exact hn348_1) | exact hn348_1) (.int .i64 ((rd_T41 l0_1 x78_2).f1))).trans hx348_0; replace hx348_0 := (cell_far (p := ⟨gb346, 2, none⟩) (by first | (rw [add_block]; exact hn348_2) | (show (Addr.add _ _).block ≠ _; rw [add_block]; exact hn348_2) | exact hn348_2) (.int .i64 ((rd_T41 l0_1 x78_2).f2))).trans hx348_0; replace hx348_0 := (cell_far (p := ⟨gb346, 3, none⟩) (by first | (rw [add_block]; exact hn348_3) | (show (Addr.add _ _).block ≠ _; rw [add_block]; exact hn348_3) | exact hn348_3) (.int .i64 ((rd_T41 l0_1 x78_2).f3))).trans hx348_0; (try have hy348_0 := fun (n_ : Nat) => (show ((((((w50.drewN n_).setCell ⟨gb346, 0, none⟩ (.int .i64 ((rd_T41 l0_1 x78_2).f0))).setCell ⟨gb346, 1, none⟩ (.int .i64 ((rd_T41 l0_1 x78_2).f1))).setCell ⟨gb346, 2, none⟩ (.int .i64 ((rd_T41 l0_1 x78_2).f2))).setCell ⟨gb346, 3, none⟩ (.int .i64 ((rd_T41 l0_1 x78_2).f3)))).cell? _ = some _ from hx348_0)); clear hn348_0; clear hn348_1; clear hn348_2; clear hn348_3; replace p348 := eq_true p348; replace q348 := eq_true q348)); try go_wp2_with (first | ((with_reducible refine gate_dst (N := 10) rfl ?_); (try (refine gate_guard (by rfl) ?_; dsimp only)); refine box_event ?hg (N := 10) ?hd (cs := #[.int .i64 0, .int .i64 0, .int .i64 0, .int .i64 0]) (t := 41) ?hr ?_; (case hd => rfl); (case hg => rfl); (case hr => first | (go_simp; done) | (go_simp; rfl)); intro gb346 hg w50 hbox hb; have n0_ := Aside0.mk (Kd.R_below (by (with_reducible repeat (first | apply Kd.R_alloc | apply Kd.R_drewN | apply Kd.R_drew)); exact HO_6.out) hb); have n1_ := Aside0.mk (blk_below (g := gb329) (o := .cells #[.int .i64 a0_0, .slice (some ad345) l0_1.length c0_1] 24 (0, 0)) (by (with_reducible repeat (first | refine blk_drewN ?_ _ | refine blk_drew ?_ | refine blk_alloc ?_ _)); exact BK329.out) hb); have n2_ := Aside0.mk (below_step (by repeat (first | (with_reducible first | exact HB.out | apply below_alloc | apply pw_below_drewN | apply below_drew1 | refine below_set ?_ GE329.out) | exact HB.out)) hb); have n3_ := Aside0.mk (hbox); have n4_ := Aside0.mk ((by rw [hg]; exact (below_size (by repeat (first | (with_reducible first | exact HB.out | apply below_alloc | apply pw_below_drewN | apply below_drew1 | refine below_set ?_ GE329.out) | exact HB.out))) : w.heap.size ≤ gb346)); have n5_ := Aside0.mk ((by rw [hg]; exact (below_size (by repeat (first | (with_reducible first | exact HB.out | apply below_alloc | apply pw_below_drewN | apply below_drew1 | refine below_set ?_ GE329.out) | exact HB.out))) : w.heap.size ≤ gb346)); have n6_ := Aside0.mk ((by rw [hg]; exact Nat.ne_of_lt (blk_lt (g := gb329) (o := .cells #[.int .i64 a0_0, .slice (some ad345) l0_1.length c0_1] 24 (0, 0)) (by (with_reducible repeat (first | refine blk_drewN ?_ _ | refine blk_drew ?_ | refine blk_alloc ?_ _)); exact BK329.out)) : gb329 ≠ gb346)); have n7_ := Aside0.mk ((by rw [hg]; exact Nat.ne_of_gt (blk_lt (g := gb329) (o := .cells #[.int .i64 a0_0, .slice (some ad345) l0_1.length c0_1] 24 (0, 0)) (by (with_reducible repeat (first | refine blk_drewN ?_ _ | refine blk_drew ?_ | refine blk_alloc ?_ _)); exact BK329.out)) : gb346 ≠ gb329)); clear HO_6; clear BK329; clear HB; have HO_6 := n0_; have BK329 := n1_; have HB := n2_; have BK346 := n3_; have GW346 := n4_; have GE346 := n5_; have NB329_346 := n6_; have NB346_329 := n7_; clear n0_ n1_ n2_ n3_ n4_ n5_ n6_ n7_; clear hb hbox hg; have hnb51 := NB346_329.out; have hnc51 := NB329_346.out; have hcz52_0 : w50.cell? ⟨gb346, 0, none⟩ = some (.int .i64 0) := (blk_cell BK346.out 0).trans rfl; have hcz52_1 : w50.cell? ⟨gb346, 1, none⟩ = some (.int .i64 0) := (blk_cell BK346.out 1).trans rfl; have hcz52_2 : w50.cell? ⟨gb346, 2, none⟩ = some (.int .i64 0) := (blk_cell BK346.out 2).trans rfl; have hcz52_3 : w50.cell? ⟨gb346, 3, none⟩ = some (.int .i64 0) := (blk_cell BK346.out 3).trans rfl; have hfz52_0 := blk_frozen BK346.out 0; have hfz52_1 := blk_frozen BK346.out 1; have hfz52_2 := blk_frozen BK346.out 2; have hfz52_3 := blk_frozen BK346.out 3; obtain ⟨Ao53, co53, eo53⟩ := Kd.R_slice HO_6.out; subst eo53; have p347 : 0 ≤ (((rd_T41 l0_1 x78_2).f0) : Int) := of_decide_eq_true (by first | (with_reducible assumption) | assumption); have q347 : ((rd_T41 l0_1 x78_2).f0) < (x6_1.length : Int) := of_decide_eq_true (by first | (with_reducible assumption) | assumption); obtain ⟨ad347, e347, hx347_0⟩ := Kd.at_int (Kd.R_reads' HO_6.out).2.2 ((rd_T41 l0_1 x78_2).f0) p347 q347; cases e347; have hn347_0 : ad347.block ≠ gb346 := Kd.own_blk (Kd.R_ne HO_6.out BK346.out (by decide)); have hn347_1 : ad347.block ≠ gb346 := Kd.own_blk (Kd.R_ne HO_6.out BK346.out (by decide)); have hn347_2 : ad347.block ≠ gb346 := Kd.own_blk (Kd.R_ne HO_6.out BK346.out (by decide)); have hn347_3 : ad347.block ≠ gb346 := Kd.own_blk (Kd.R_ne HO_6.out BK346.out (by decide)); replace hx347_0 := (cell_far (p := ⟨gb346, 0, none⟩) (by first | (rw [add_block]; exact hn347_0) | (show (Addr.add _ _).block ≠ _; rw [add_block]; exact hn347_0) | exact hn347_0) (.int .i64 ((rd_T41 l0_1 x78_2).f0))).trans hx347_0; replace hx347_0 := (cell_far (p := ⟨gb346, 1, none⟩) (by first | (rw [add_block]; exact hn347_1) | (show (Addr.add _ _).block ≠ _; rw [add_block]; exact hn347_1) | exact hn347_1) (.int .i64 ((rd_T41 l0_1 x78_2).f1))).trans hx347_0; replace hx347_0 := (cell_far (p := ⟨gb346, 2, none⟩) (by first | (rw [add_block]; exact hn347_2) | (show (Addr.add _ _).block ≠ _; rw [add_block]; exact hn347_2) | exact hn347_2) (.int .i64 ((rd_T41 l0_1 x78_2).f2))).trans hx347_0; replace hx347_0 := (cell_far (p := ⟨gb346, 3, none⟩) (by first | (rw [add_block]; exact hn347_3) | (show (Addr.add _ _).block ≠ _; rw [add_block]; exact hn347_3) | exact hn347_3) (.int .i64 ((rd_T41 l0_1 x78_2).f3))).trans hx347_0; (try have hy347_0 := fun (n_ : Nat) => (show ((((((w50.drewN n_).setCell ⟨gb346, 0, none⟩ (.int .i64 ((rd_T41 l0_1 x78_2).f0))).setCell ⟨gb346, 1, none⟩ (.int .i64 ((rd_T41 l0_1 x78_2).f1))).setCell ⟨gb346, 2, none⟩ (.int .i64 ((rd_T41 l0_1 x78_2).f2))).setCell ⟨gb346, 3, none⟩ (.int .i64 ((rd_T41 l0_1 x78_2).f3)))).cell? _ = some _ from hx347_0)); clear hn347_0; clear hn347_1; clear hn347_2; clear hn347_3; replace p347 := eq_true p347; replace q347 := eq_true q347; have p348 : 0 ≤ (((rd_T41 l0_1 x78_2).f1) : Int) := of_decide_eq_true (by first | (with_reducible assumption) | assumption); have q348 : ((rd_T41 l0_1 x78_2).f1) < (x6_1.length : Int) := of_decide_eq_true (by first | (with_reducible assumption) | assumption); obtain ⟨ad348, e348, hx348_0⟩ := Kd.at_int (Kd.R_reads' HO_6.out).2.2 ((rd_T41 l0_1 x78_2).f1) p348 q348; obtain rfl : ad347 = ad348 := (by injection e348); have hn348_0 : ad347.block ≠ gb346 := Kd.own_blk (Kd.R_ne HO_6.out BK346.out (by decide)); have hn348_1 : ad347.block ≠ gb346 := Kd.own_blk (Kd.R_ne HO_6.out BK346.out (by decide)); have hn348_2 : ad347.block ≠ gb346 := Kd.own_blk (Kd.R_ne HO_6.out BK346.out (by decide)); have hn348_3 : ad347.block ≠ gb346 := Kd.own_blk (Kd.R_ne HO_6.out BK346.out (by decide)); replace hx348_0 := (cell_far (p := ⟨gb346, 0, none⟩) (by first | (rw [add_block]; exact hn348_0) | (show (Addr.add _ _).block ≠ _; rw [add_block]; exact hn348_0) | exact hn348_0) (.int .i64 ((rd_T41 l0_1 x78_2).f0))).trans hx348_0; replace hx348_0 := (cell_far (p := ⟨gb346, 1, none⟩) (by first | (rw [add_block]; exact hn348_1) | (show (Addr.add _ _).block ≠ _; rw [add_block]; exact hn348_1) | exact hn348_1) (.int .i64 ((rd_T41 l0_1 x78_2).f1))).trans hx348_0; replace hx348_0 := (cell_far (p := ⟨gb346, 2, none⟩) (by first | (rw [add_block]; exact hn348_2) | (show (Addr.add _ _).block ≠ _; rw [add_block]; exact hn348_2) | exact hn348_2) (.int .i64 ((rd_T41 l0_1 x78_2).f2))).trans hx348_0; replace hx348_0 := (cell_far (p := ⟨gb346, 3, none⟩) (by first | (rw [add_block]; exact hn348_3) | (show (Addr.add _ _).block ≠ _; rw [add_block]; exact hn348_3) | exact hn348_3) (.int .i64 ((rd_T41 l0_1 x78_2).f3))).trans hx348_0; (try have hy348_0 := fun (n_ : Nat) => (show ((((((w50.drewN n_).setCell ⟨gb346, 0, none⟩ (.int .i64 ((rd_T41 l0_1 x78_2).f0))).setCell ⟨gb346, 1, none⟩ (.int .i64 ((rd_T41 l0_1 x78_2).f1))).setCell ⟨gb346, 2, none⟩ (.int .i64 ((rd_T41 l0_1 x78_2).f2))).setCell ⟨gb346, 3, none⟩ (.int .i64 ((rd_T41 l0_1 x78_2).f3)))).cell? _ = some _ from hx348_0)); clear hn348_0; clear hn348_1; clear hn348_2; clear hn348_3; replace p348 := eq_true p348; replace q348 := eq_true q348)))
                    go_roundg k2
                    case measure => have := HK1.out; have := HK2.out; omega
                    case rel => exact ⟨(wrap64 (x78_2 + 1)), (by first | rfl | (simp; done) | (simp [*]; done)), H', ⟨by have := HK1.out; have := HK2.out; omega⟩, ⟨by (with_reducible repeat (first | apply Kd.R_alloc | apply Kd.R_drewN | apply Kd.R_drew)); exact Kd.R_mono (Kd.R_far (p := ⟨gb346, 3, none⟩) (Kd.R_far (p := ⟨gb346, 2, none⟩) (Kd.R_far (p := ⟨gb346, 1, none⟩) (Kd.R_far (p := ⟨gb346, 0, none⟩) (Kd.R_types HO_6.out BK346.out (by decide)) (fun _ hk => hk.2) (.int .i64 ((rd_T41 l0_1 x78_2).f0))) (fun _ hk => hk.2) (.int .i64 ((rd_T41 l0_1 x78_2).f1))) (fun _ hk => hk.2) (.int .i64 ((rd_T41 l0_1 x78_2).f2))) (fun _ hk => hk.2) (.int .i64 ((rd_T41 l0_1 x78_2).f3))) (fun _ hk => trivial)⟩, ⟨by (with_reducible repeat (first | refine blk_drewN ?_ _ | refine blk_drew ?_ | refine blk_alloc ?_ _)); refine blk_far ?_ NB329_346.out _; (with_reducible repeat (first | refine blk_drewN ?_ _ | refine blk_drew ?_ | refine blk_alloc ?_ _)); refine blk_far ?_ NB329_346.out _; (with_reducible repeat (first | refine blk_drewN ?_ _ | refine blk_drew ?_ | refine blk_alloc ?_ _)); refine blk_far ?_ NB329_346.out _; (with_reducible repeat (first | refine blk_drewN ?_ _ | refine blk_drew ?_ | refine blk_alloc ?_ _)); refine blk_far ?_ NB329_346.out _; (with_reducible repeat (first | refine blk_drewN ?_ _ | refine blk_drew ?_ | refine blk_alloc ?_ _)); exact BK329.out⟩, ⟨by repeat (first | (with_reducible first | exact HB.out | apply below_alloc | apply pw_below_drewN | apply below_drew1 | refine below_set ?_ GE329.out | refine below_set ?_ GE346.out) | exact HB.out)⟩⟩
                  ·
                   rw [if_neg c48] at H
                   exact absurd H (by simp)
                 ·
                  rw [if_neg c47] at H
                  exact absurd H (by simp)
                ·
                 rw [if_neg c46] at H
                 exact absurd H (by simp)
               ·
                rw [if_neg c45] at H
                exact absurd H (by simp)
              ·
               rw [if_neg c44] at H
               exact absurd H (by simp)
             ·
              rw [if_neg c43] at H
              exact absurd H (by simp)
            ·
             rw [if_neg c42] at H
             have c42b0 : decide (x78_2 < (l0_1.length : Int)) = false := decide_eq_false c42
             clear c42
             obtain rfl := Option.some.inj H
             go_wp2
             repeat (go_quiet (fail); try go_wp2)
             go_ret
             exact ⟨by first | rfl | (simp [errW_none, errW_some] <;> rfl) | (simp [*, errW_none, errW_some] <;> rfl), by repeat (first | (with_reducible first | exact HB.out | apply below_alloc | apply pw_below_drewN | apply below_drew1 | refine below_set ?_ GE329.out) | exact HB.out)⟩
      ·
       rw [if_neg c19] at H
       exact absurd H (by simp)
     ·
      rw [if_neg c18] at H
      exact absurd H (by simp)
    ·
     rw [if_neg c17] at H
     have c17b0 : ((t331.length : Int) == a0_0) = false := beq_eq_false_iff_ne.mpr c17
     have c17b1 : ((t331.length : Int) != a0_0) = true := bne_iff_ne.mpr c17
     exact absurd ((Option.some.inj H).trans HR_.out) (by decide)
   ·
    rw [if_neg c16] at H
    have c16b0 : (t337 == 0) = false := beq_eq_false_iff_ne.mpr c16
    have c16b1 : (t337 != 0) = true := bne_iff_ne.mpr c16
    by_cases c54 : (t331.length : Int) = 0
    ·
     rw [if_pos c54] at H
     have c54b0 : ((t331.length : Int) == 0) = true := beq_iff_eq.mpr c54
     have c54b1 : ((t331.length : Int) != 0) = false := bne_eq_false_iff_eq.mpr c54
     clear c54
     obtain rfl := Option.some.inj H
     go_enter Try.func6, Try.ntmps6
     go_wp2_with (first | ((with_reducible refine gate_dst (N := 1) rfl ?_); (try (refine gate_guard (by rfl) ?_; dsimp only)); refine box_event ?hg (N := 1) ?hd (cs := #[.int .i64 a0_0, .slice A0_1 l0_1.length c0_1]) (t := 24) ?hr ?_; (case hd => rfl); (case hg => rfl); (case hr => first | (go_simp; done) | (go_simp; rfl)); intro gb329 hg w55 hbox hb; have n0_ := Aside0.mk (below_step (by repeat (first | (with_reducible first | exact HB.out | apply below_alloc | apply pw_below_drewN | apply below_drew1) | exact HB.out)) hb); have n1_ := Aside0.mk (hbox); have n2_ := Aside0.mk ((by rw [hg]; exact (below_size (by repeat (first | (with_reducible first | exact HB.out | apply below_alloc | apply pw_below_drewN | apply below_drew1) | exact HB.out))) : w.heap.size ≤ gb329)); have n3_ := Aside0.mk ((by rw [hg]; exact (below_size (by repeat (first | (with_reducible first | exact HB.out | apply below_alloc | apply pw_below_drewN | apply below_drew1) | exact HB.out))) : w.heap.size ≤ gb329)); clear HB; have HB := n0_; have BK329 := n1_; have GW329 := n2_; have GE329 := n3_; clear n0_ n1_ n2_ n3_; clear hb hbox hg) | (go_at_call 12; (with_reducible refine (compasslaw04_awake.calls k  true _ A2.out).mono ?_); rintro e w56 ⟨rfl, hb⟩; have n0_ := Aside0.mk (blk_below (g := gb329) (o := .cells #[.int .i64 a0_0, .slice A0_1 l0_1.length c0_1] 24 (0, 0)) (by (with_reducible repeat (first | refine blk_drewN ?_ _ | refine blk_drew ?_ | refine blk_alloc ?_ _)); exact BK329.out) hb); have n1_ := Aside0.mk (below_step (by repeat (first | (with_reducible first | exact HB.out | apply below_alloc | apply pw_below_drewN | apply below_drew1 | refine below_set ?_ GE329.out) | exact HB.out)) hb); clear BK329; clear HB; have BK329 := n0_; have HB := n1_; clear n0_ n1_; (try clear hb); (try clear hb2); (try clear hk); (try clear hi); have hcz57_0 : w56.cell? ⟨gb329, 0, none⟩ = some (.int .i64 a0_0) := (blk_cell BK329.out 0).trans rfl; have hcz57_1 : w56.cell? ⟨gb329, 1, none⟩ = some (.slice A0_1 l0_1.length c0_1) := (blk_cell BK329.out 1).trans rfl; have hfz57_0 := blk_frozen BK329.out 0; have hfz57_1 := blk_frozen BK329.out 1) | (go_at_call 16; (with_reducible refine (walk_Order.calls k a0_0 _ _ l0_1 t331 t334 t337 _ ?side1 ?side2 A4.out).mono ?_); (case side1 => repeat (first | exact (Kd.C_below HR0_1.out HB.out) | (with_reducible refine Kd.C_alloc ?_ _) | (with_reducible refine Kd.C_drewN ?_ _) | (with_reducible refine Kd.C_drew ?_))); (case side2 => exact HC0_1.out); rintro e w58 ⟨v332, v335, rfl, ho0, ho1, hb⟩; have n0_ := Aside0.mk (Kd.R_lower ho0 (below_size (by repeat (first | (with_reducible first | exact HB.out | apply below_alloc | apply pw_below_drewN | apply below_drew1 | refine below_set ?_ GE329.out) | exact HB.out)))); have n1_ := Aside0.mk (Kd.R_lower ho1 (below_size (by repeat (first | (with_reducible first | exact HB.out | apply below_alloc | apply pw_below_drewN | apply below_drew1 | refine below_set ?_ GE329.out) | exact HB.out)))); have n2_ := Aside0.mk (blk_below (g := gb329) (o := .cells #[.int .i64 a0_0, .slice A0_1 l0_1.length c0_1] 24 (0, 0)) (by (with_reducible repeat (first | refine blk_drewN ?_ _ | refine blk_drew ?_ | refine blk_alloc ?_ _)); exact BK329.out) hb); have n3_ := Aside0.mk (below_step (by repeat (first | (with_reducible first | exact HB.out | apply below_alloc | apply pw_below_drewN | apply below_drew1 | refine below_set ?_ GE329.out) | exact HB.out)) hb); clear BK329; clear HB; have HO333 := n0_; have HO336 := n1_; have BK329 := n2_; have HB := n3_; clear n0_ n1_ n2_ n3_; (try clear hb); (try clear hb2); (try clear hk); (try clear hi); (try clear ho0); (try clear ho1); obtain ⟨Ao59, co59, eo59⟩ := Kd.R_slice HO333.out; subst eo59; obtain ⟨Ao60, co60, eo60⟩ := Kd.R_slice HO336.out; subst eo60))
     go_ret
     exact ⟨by first | rfl | (simp [errW_none, errW_some] <;> rfl) | (simp [*, errW_none, errW_some] <;> rfl), by repeat (first | (with_reducible first | exact HB.out | apply below_alloc | apply pw_below_drewN | apply below_drew1 | refine below_set ?_ GE329.out) | exact HB.out)⟩
    ·
     rw [if_neg c54] at H
     have c54b0 : ((t331.length : Int) == 0) = false := beq_eq_false_iff_ne.mpr c54
     have c54b1 : ((t331.length : Int) != 0) = true := bne_iff_ne.mpr c54
     have c54b2 : ¬ (t331 = []) := fun h_ => c54 (by rw [h_]; rfl)
     exact absurd ((Option.some.inj H).trans HR_.out) (by decide)
 ·
  replace c3 := Bool.eq_false_iff.mpr c3
  subst c3
  have H1 : (some false) = some r := by rw [if_neg (show ¬ (false = true) by decide)] at H; exact H
  clear H
  have H := H1
  clear H1
  exact absurd ((Option.some.inj H).trans HR_.out) (by decide)

end Go.Proofs.Ytacklfnnpiobgaa.Q
