-- PRINTED by print.py (a twelfth state) out of the translation. Not trusted: Lean checks it.
import Derived.Test.YtacklfnnpiobgaaQ0
import Derived.Test.YtacklfnnpiobgaaQ5
import Derived.Test.YtacklfnnpiobgaaQ8
namespace Go.Proofs.Ytacklfnnpiobgaa.Q
open Go.RowKit Go.Proofs.YtacklfnnpiobgaaW.PrintWords Go.Proofs.YtacklfnnpiobgaaW.PrintLast Go.Proofs.YtacklfnnpiobgaaW.PrintMore
attribute [local go_sem] max2_int min2_int max_two min_two max_three min_three max_four min_four   -- for this text's walks alone
set_option linter.unusedVariables false
set_option linter.unusedSimpArgs false

/-! ### compasslaw04_WalkNear: function 5 -/
mutual
def compasslaw04_WalkNear.j0 : Nat → Int → List Int → Bool → Int → List (S41) → Option (Bool)
  | 0, _, _, _, _, _ => none
  | k + 1, x1, x5, x38, x312000, x312001 => if x38 = true then (some false) else (if 0 ≤ x312000 then (if (x312000 : Int).toNat ≤ 281474976710656 then (compasslaw04_WalkNear.l0 k x1 x5 (List.replicate (x312000 : Int).toNat false) x312001 (x312001.length : Int) 0) else (none)) else (none))
def compasslaw04_WalkNear.l0 : Nat → Int → List Int → List Bool → List (S41) → Int → Int → Option (Bool)
  | 0, _, _, _, _, _, _ => none
  | k + 1, x1, x5, x7, x43, x44, x45 => if x45 < x44 then (if 0 ≤ x45 then (if x45 < (x43.length : Int) then (if 0 ≤ ((rd_T41 x43 x45).f0) then (if ((rd_T41 x43 x45).f0) < (x5.length : Int) then (if 0 ≤ ((rd_T41 x43 x45).f1) then (if ((rd_T41 x43 x45).f1) < (x5.length : Int) then (if (rd x5 ((rd_T41 x43 x45).f0)) ≥ 0 then (if (rd x5 ((rd_T41 x43 x45).f1)) < 0 then (compasslaw04_WalkNear.j2 k x1 x5 x7 (rd x5 ((rd_T41 x43 x45).f0)) (rd x5 ((rd_T41 x43 x45).f1)) x43 x44 x45 true ((rd_T41 x43 x45).f0) ((rd_T41 x43 x45).f1) ((rd_T41 x43 x45).f2) ((rd_T41 x43 x45).f3)) else (compasslaw04_WalkNear.j2 k x1 x5 x7 (rd x5 ((rd_T41 x43 x45).f0)) (rd x5 ((rd_T41 x43 x45).f1)) x43 x44 x45 (decide ((rd x5 ((rd_T41 x43 x45).f1)) > (wrap64 ((rd x5 ((rd_T41 x43 x45).f0)) + 1)))) ((rd_T41 x43 x45).f0) ((rd_T41 x43 x45).f1) ((rd_T41 x43 x45).f2) ((rd_T41 x43 x45).f3))) else (compasslaw04_WalkNear.j2 k x1 x5 x7 (rd x5 ((rd_T41 x43 x45).f0)) (rd x5 ((rd_T41 x43 x45).f1)) x43 x44 x45 false ((rd_T41 x43 x45).f0) ((rd_T41 x43 x45).f1) ((rd_T41 x43 x45).f2) ((rd_T41 x43 x45).f3))) else (none)) else (none)) else (none)) else (none)) else (none)) else (none)) else (compasslaw04_WalkNear.l1 k x1 x7 x5 (x5.length : Int) 0)
def compasslaw04_WalkNear.j2 : Nat → Int → List Int → List Bool → Int → Int → List (S41) → Int → Int → Bool → Int → Int → Int → Int → Option (Bool)
  | 0, _, _, _, _, _, _, _, _, _, _, _, _, _ => none
  | k + 1, x1, x5, x7, x10, x11, x43, x44, x45, x70, x323000, x323001, x323002, x323003 => if x70 = true then (some false) else (if x10 ≥ 0 then (if x11 = (wrap64 (x10 + 1)) then (if 0 ≤ x323001 then (if x323001 < (x7.length : Int) then (compasslaw04_WalkNear.l0 k x1 x5 (x7.set (x323001 : Int).toNat true) x43 x44 (wrap64 (x45 + 1))) else (none)) else (none)) else (compasslaw04_WalkNear.l0 k x1 x5 x7 x43 x44 (wrap64 (x45 + 1)))) else (compasslaw04_WalkNear.l0 k x1 x5 x7 x43 x44 (wrap64 (x45 + 1))))
def compasslaw04_WalkNear.l1 : Nat → Int → List Bool → List Int → Int → Int → Option (Bool)
  | 0, _, _, _, _, _ => none
  | k + 1, x1, x7, x84, x85, x86 => if x86 < x85 then (if 0 ≤ x86 then (if x86 < (x84.length : Int) then (if (rd x84 x86) < (-1) then (some false) else (if (rd x84 x86) = 0 then (if x86 = x1 then (if (rd x84 x86) > 0 then (if x86 < (x7.length : Int) then (if rdOf false x7 x86 = true then (compasslaw04_WalkNear.l1 k x1 x7 x84 x85 (wrap64 (x86 + 1))) else (some false)) else (none)) else (compasslaw04_WalkNear.l1 k x1 x7 x84 x85 (wrap64 (x86 + 1)))) else (some false)) else (if (rd x84 x86) > 0 then (if x86 < (x7.length : Int) then (if rdOf false x7 x86 = true then (compasslaw04_WalkNear.l1 k x1 x7 x84 x85 (wrap64 (x86 + 1))) else (some false)) else (none)) else (compasslaw04_WalkNear.l1 k x1 x7 x84 x85 (wrap64 (x86 + 1)))))) else (none)) else (none)) else (some true)
end
def compasslaw04_WalkNear.f (k : Nat) (a0_0 : Int) (l0_1 : List (S41)) (a1 : Int) : Option (Bool) := (compasslaw04_awake.f k).bind fun t312 => (if t312 = true then ((walk_Levels.f k a0_0 l0_1 a1).bind fun bt313 => (if bt313.2 = 0 then (if (bt313.1.length : Int) = a0_0 then (if 0 ≤ a1 then (if a1 < (bt313.1.length : Int) then (compasslaw04_WalkNear.j0 k a1 bt313.1 ((rd bt313.1 a1) != 0) a0_0 l0_1) else (none)) else (none)) else (compasslaw04_WalkNear.j0 k a1 bt313.1 true a0_0 l0_1)) else (some ((bt313.1.length : Int) == 0)))) else (some false))
theorem compasslaw04_WalkNear.mono_l : ∀ k, (∀ y0 y1 y2 y3 y4, LeO (compasslaw04_WalkNear.j0 k y0 y1 y2 y3 y4) (compasslaw04_WalkNear.j0 (k + 1) y0 y1 y2 y3 y4)) ∧ (∀ y0 y1 y2 y3 y4 y5, LeO (compasslaw04_WalkNear.l0 k y0 y1 y2 y3 y4 y5) (compasslaw04_WalkNear.l0 (k + 1) y0 y1 y2 y3 y4 y5)) ∧ (∀ y0 y1 y2 y3 y4 y5 y6 y7 y8 y9 y10 y11 y12, LeO (compasslaw04_WalkNear.j2 k y0 y1 y2 y3 y4 y5 y6 y7 y8 y9 y10 y11 y12) (compasslaw04_WalkNear.j2 (k + 1) y0 y1 y2 y3 y4 y5 y6 y7 y8 y9 y10 y11 y12)) ∧ (∀ y0 y1 y2 y3 y4, LeO (compasslaw04_WalkNear.l1 k y0 y1 y2 y3 y4) (compasslaw04_WalkNear.l1 (k + 1) y0 y1 y2 y3 y4))
  | 0 => ⟨fun _ _ _ _ _ r h => by simp [compasslaw04_WalkNear.j0] at h, fun _ _ _ _ _ _ r h => by simp [compasslaw04_WalkNear.l0] at h, fun _ _ _ _ _ _ _ _ _ _ _ _ _ r h => by simp [compasslaw04_WalkNear.j2] at h, fun _ _ _ _ _ r h => by simp [compasslaw04_WalkNear.l1] at h⟩
  | k + 1 => by
    obtain ⟨ih0, ih1, ih2, ih3⟩ := compasslaw04_WalkNear.mono_l k
    refine ⟨?_, ?_, ?_, ?_⟩
    · intro y0 y1 y2 y3 y4
      unfold compasslaw04_WalkNear.j0
      repeat' first
      | (with_reducible exact ih0 _ _ _ _ _)
      | (with_reducible exact ih1 _ _ _ _ _ _)
      | (with_reducible exact ih2 _ _ _ _ _ _ _ _ _ _ _ _ _)
      | (with_reducible exact ih3 _ _ _ _ _)
      | (with_reducible exact compasslaw04_awake.mono _)
      | (with_reducible exact walk_Levels.mono _ _ _ _)
      | (with_reducible exact LeO.refl _)
      | (with_reducible exact LeO.none _)
      | (with_reducible refine LeO.ite ?_ ?_)
      | (with_reducible refine LeO.bind ?_ (fun _ => ?_))
      | exact ih0 _ _ _ _ _
      | exact ih1 _ _ _ _ _ _
      | exact ih2 _ _ _ _ _ _ _ _ _ _ _ _ _
      | exact ih3 _ _ _ _ _
      | exact compasslaw04_awake.mono _
      | exact walk_Levels.mono _ _ _ _
      | exact LeO.none _
      | refine LeO.ite ?_ ?_
      | refine LeO.bind ?_ (fun _ => ?_)
    · intro y0 y1 y2 y3 y4 y5
      unfold compasslaw04_WalkNear.l0
      repeat' first
      | (with_reducible exact ih0 _ _ _ _ _)
      | (with_reducible exact ih1 _ _ _ _ _ _)
      | (with_reducible exact ih2 _ _ _ _ _ _ _ _ _ _ _ _ _)
      | (with_reducible exact ih3 _ _ _ _ _)
      | (with_reducible exact compasslaw04_awake.mono _)
      | (with_reducible exact walk_Levels.mono _ _ _ _)
      | (with_reducible exact LeO.refl _)
      | (with_reducible exact LeO.none _)
      | (with_reducible refine LeO.ite ?_ ?_)
      | (with_reducible refine LeO.bind ?_ (fun _ => ?_))
      | exact ih0 _ _ _ _ _
      | exact ih1 _ _ _ _ _ _
      | exact ih2 _ _ _ _ _ _ _ _ _ _ _ _ _
      | exact ih3 _ _ _ _ _
      | exact compasslaw04_awake.mono _
      | exact walk_Levels.mono _ _ _ _
      | exact LeO.none _
      | refine LeO.ite ?_ ?_
      | refine LeO.bind ?_ (fun _ => ?_)
    · intro y0 y1 y2 y3 y4 y5 y6 y7 y8 y9 y10 y11 y12
      unfold compasslaw04_WalkNear.j2
      repeat' first
      | (with_reducible exact ih0 _ _ _ _ _)
      | (with_reducible exact ih1 _ _ _ _ _ _)
      | (with_reducible exact ih2 _ _ _ _ _ _ _ _ _ _ _ _ _)
      | (with_reducible exact ih3 _ _ _ _ _)
      | (with_reducible exact compasslaw04_awake.mono _)
      | (with_reducible exact walk_Levels.mono _ _ _ _)
      | (with_reducible exact LeO.refl _)
      | (with_reducible exact LeO.none _)
      | (with_reducible refine LeO.ite ?_ ?_)
      | (with_reducible refine LeO.bind ?_ (fun _ => ?_))
      | exact ih0 _ _ _ _ _
      | exact ih1 _ _ _ _ _ _
      | exact ih2 _ _ _ _ _ _ _ _ _ _ _ _ _
      | exact ih3 _ _ _ _ _
      | exact compasslaw04_awake.mono _
      | exact walk_Levels.mono _ _ _ _
      | exact LeO.none _
      | refine LeO.ite ?_ ?_
      | refine LeO.bind ?_ (fun _ => ?_)
    · intro y0 y1 y2 y3 y4
      unfold compasslaw04_WalkNear.l1
      repeat' first
      | (with_reducible exact ih0 _ _ _ _ _)
      | (with_reducible exact ih1 _ _ _ _ _ _)
      | (with_reducible exact ih2 _ _ _ _ _ _ _ _ _ _ _ _ _)
      | (with_reducible exact ih3 _ _ _ _ _)
      | (with_reducible exact compasslaw04_awake.mono _)
      | (with_reducible exact walk_Levels.mono _ _ _ _)
      | (with_reducible exact LeO.refl _)
      | (with_reducible exact LeO.none _)
      | (with_reducible refine LeO.ite ?_ ?_)
      | (with_reducible refine LeO.bind ?_ (fun _ => ?_))
      | exact ih0 _ _ _ _ _
      | exact ih1 _ _ _ _ _ _
      | exact ih2 _ _ _ _ _ _ _ _ _ _ _ _ _
      | exact ih3 _ _ _ _ _
      | exact compasslaw04_awake.mono _
      | exact walk_Levels.mono _ _ _ _
      | exact LeO.none _
      | refine LeO.ite ?_ ?_
      | refine LeO.bind ?_ (fun _ => ?_)
theorem compasslaw04_WalkNear.mono : ∀ a0 a1 a2 k, LeO (compasslaw04_WalkNear.f k a0 a1 a2) (compasslaw04_WalkNear.f (k + 1) a0 a1 a2) := by
  intro a0 a1 a2 k
  obtain ⟨ih0, ih1, ih2, ih3⟩ := compasslaw04_WalkNear.mono_l k
  unfold compasslaw04_WalkNear.f
  repeat' first
      | (with_reducible exact ih0 _ _ _ _ _)
      | (with_reducible exact ih1 _ _ _ _ _ _)
      | (with_reducible exact ih2 _ _ _ _ _ _ _ _ _ _ _ _ _)
      | (with_reducible exact ih3 _ _ _ _ _)
      | (with_reducible exact compasslaw04_awake.mono _)
      | (with_reducible exact walk_Levels.mono _ _ _ _)
      | (with_reducible exact LeO.refl _)
      | (with_reducible exact LeO.none _)
      | (with_reducible refine LeO.ite ?_ ?_)
      | (with_reducible refine LeO.bind ?_ (fun _ => ?_))
      | exact ih0 _ _ _ _ _
      | exact ih1 _ _ _ _ _ _
      | exact ih2 _ _ _ _ _ _ _ _ _ _ _ _ _
      | exact ih3 _ _ _ _ _
      | exact compasslaw04_awake.mono _
      | exact walk_Levels.mono _ _ _ _
      | exact LeO.none _
      | refine LeO.ite ?_ ?_
      | refine LeO.bind ?_ (fun _ => ?_)
set_option maxHeartbeats 8000000 in
set_option maxRecDepth 100000 in
theorem compasslaw04_WalkNear.calls (k : Nat) (a0_0 : Int) (A0_1 : Option Addr) (c0_1 : Nat) (l0_1 : List (S41)) (a1 : Int) (r : Bool) (w : World) (hr0_1 : Kd.C k41 w A0_1 l0_1.length l0_1) (hc0_1 : l0_1.length ≤ c0_1) (hr_ : r = true) (h : compasslaw04_WalkNear.f k a0_0 l0_1 a1 = some r) :
    Calls Try.prog 5 #[.agg #[.int .i64 a0_0, .slice A0_1 l0_1.length c0_1], .int .i64 a1] w fun e w' => e = .returned (.bool r) ∧ Below w.heap.size w w' := by
  have hu24 := Try.underlying24
  have hu41 := Try.underlying41
  have HR0_1 := Aside0.mk hr0_1
  have HC0_1 := Aside0.mk hc0_1
  clear hr0_1 hc0_1
  have HB := Aside0.mk (Below.refl w.heap.size w)
  have HR_ := Aside0.mk hr_
  clear hr_
  have H : ((compasslaw04_awake.f k).bind fun t312 => (if t312 = true then ((walk_Levels.f k a0_0 l0_1 a1).bind fun bt313 => (if bt313.2 = 0 then (if (bt313.1.length : Int) = a0_0 then (if 0 ≤ a1 then (if a1 < (bt313.1.length : Int) then (compasslaw04_WalkNear.j0 k a1 bt313.1 ((rd bt313.1 a1) != 0) a0_0 l0_1) else (none)) else (none)) else (compasslaw04_WalkNear.j0 k a1 bt313.1 true a0_0 l0_1)) else (some ((bt313.1.length : Int) == 0)))) else (some false))) = some r := h
  clear h
  replace H := Option.bind_eq_some_iff.mp H
  obtain ⟨t312, A30, H⟩ := H
  replace H : (if t312 = true then ((walk_Levels.f k a0_0 l0_1 a1).bind fun bt313 => (if bt313.2 = 0 then (if (bt313.1.length : Int) = a0_0 then (if 0 ≤ a1 then (if a1 < (bt313.1.length : Int) then (compasslaw04_WalkNear.j0 k a1 bt313.1 ((rd bt313.1 a1) != 0) a0_0 l0_1) else (none)) else (none)) else (compasslaw04_WalkNear.j0 k a1 bt313.1 true a0_0 l0_1)) else (some ((bt313.1.length : Int) == 0)))) else (some false)) = some r := H
  have A3 := Aside0.mk A30
  clear A30
  by_cases c4 : t312 = true
  · subst c4
    have H1 : ((walk_Levels.f k a0_0 l0_1 a1).bind fun bt313 => (if bt313.2 = 0 then (if (bt313.1.length : Int) = a0_0 then (if 0 ≤ a1 then (if a1 < (bt313.1.length : Int) then (compasslaw04_WalkNear.j0 k a1 bt313.1 ((rd bt313.1 a1) != 0) a0_0 l0_1) else (none)) else (none)) else (compasslaw04_WalkNear.j0 k a1 bt313.1 true a0_0 l0_1)) else (some ((bt313.1.length : Int) == 0)))) = some r := by rw [if_pos rfl] at H; exact H
    clear H
    have H := H1
    clear H1
    replace H := Option.bind_eq_some_iff.mp H
    obtain ⟨⟨t313, t316⟩, A50, H⟩ := H
    replace H : (if t316 = 0 then (if (t313.length : Int) = a0_0 then (if 0 ≤ a1 then (if a1 < (t313.length : Int) then (compasslaw04_WalkNear.j0 k a1 t313 ((rd t313 a1) != 0) a0_0 l0_1) else (none)) else (none)) else (compasslaw04_WalkNear.j0 k a1 t313 true a0_0 l0_1)) else (some ((t313.length : Int) == 0))) = some r := H
    have A5 := Aside0.mk A50
    clear A50
    by_cases c6 : t316 = 0
    · rw [if_pos c6] at H
      have c6b0 : (t316 == 0) = true := beq_iff_eq.mpr c6
      have c6b1 : (t316 != 0) = false := bne_eq_false_iff_eq.mpr c6
      clear c6
      have HC7 := Aside0.mk H
      clear H
      go_enter Try.func5, Try.ntmps5
      go_upto_region 6 with (first | ((with_reducible refine gate_dst (N := 2) rfl ?_); refine box_event ?hg (N := 2) ?hd (cs := #[.int .i64 a0_0, .slice A0_1 l0_1.length c0_1]) (t := 24) ?hr ?_; (case hd => rfl); (case hg => rfl); (case hr => first | (go_simp; done) | (go_simp; rfl)); intro gb311 hg w8 hbox hb; have n0_ := Aside0.mk (below_step (by repeat (first | (with_reducible first | exact HB.out | apply below_alloc | apply pw_below_drewN | apply below_drew1) | exact HB.out)) hb); have n1_ := Aside0.mk (hbox); have n2_ := Aside0.mk ((by rw [hg]; exact (below_size (by repeat (first | (with_reducible first | exact HB.out | apply below_alloc | apply pw_below_drewN | apply below_drew1) | exact HB.out))) : w.heap.size ≤ gb311)); have n3_ := Aside0.mk ((by rw [hg]; exact (below_size (by repeat (first | (with_reducible first | exact HB.out | apply below_alloc | apply pw_below_drewN | apply below_drew1) | exact HB.out))) : w.heap.size ≤ gb311)); clear HB; have HB := n0_; have BK311 := n1_; have GW311 := n2_; have GE311 := n3_; clear n0_ n1_ n2_ n3_; clear hb hbox hg) | (go_at_call 12; (with_reducible refine (compasslaw04_awake.calls k  true _ A3.out).mono ?_); rintro e w9 ⟨rfl, hb⟩; have n0_ := Aside0.mk (blk_below (g := gb311) (o := .cells #[.int .i64 a0_0, .slice A0_1 l0_1.length c0_1] 24 (0, 0)) (by (with_reducible repeat (first | refine blk_drewN ?_ _ | refine blk_drew ?_ | refine blk_alloc ?_ _)); exact BK311.out) hb); have n1_ := Aside0.mk (below_step (by repeat (first | (with_reducible first | exact HB.out | apply below_alloc | apply pw_below_drewN | apply below_drew1 | refine below_set ?_ GE311.out) | exact HB.out)) hb); clear BK311; clear HB; have BK311 := n0_; have HB := n1_; clear n0_ n1_; (try clear hb); (try clear hb2); (try clear hk); (try clear hi); have hcz10_0 : w9.cell? ⟨gb311, 0, none⟩ = some (.int .i64 a0_0) := (blk_cell BK311.out 0).trans rfl; have hcz10_1 : w9.cell? ⟨gb311, 1, none⟩ = some (.slice A0_1 l0_1.length c0_1) := (blk_cell BK311.out 1).trans rfl; have hfz10_0 := blk_frozen BK311.out 0; have hfz10_1 := blk_frozen BK311.out 1) | (go_at_call 13; (with_reducible refine (walk_Levels.calls k a0_0 _ _ l0_1 a1 t313 t316 _ ?side1 ?side2 A5.out).mono ?_); (case side1 => repeat (first | exact (Kd.C_below HR0_1.out HB.out) | (with_reducible refine Kd.C_alloc ?_ _) | (with_reducible refine Kd.C_drewN ?_ _) | (with_reducible refine Kd.C_drew ?_))); (case side2 => exact HC0_1.out); rintro e w11 ⟨v314, rfl, ho0, hb⟩; have n0_ := Aside0.mk (Kd.R_lower ho0 (below_size (by repeat (first | (with_reducible first | exact HB.out | apply below_alloc | apply pw_below_drewN | apply below_drew1 | refine below_set ?_ GE311.out) | exact HB.out)))); have n1_ := Aside0.mk (blk_below (g := gb311) (o := .cells #[.int .i64 a0_0, .slice A0_1 l0_1.length c0_1] 24 (0, 0)) (by (with_reducible repeat (first | refine blk_drewN ?_ _ | refine blk_drew ?_ | refine blk_alloc ?_ _)); exact BK311.out) hb); have n2_ := Aside0.mk (below_step (by repeat (first | (with_reducible first | exact HB.out | apply below_alloc | apply pw_below_drewN | apply below_drew1 | refine below_set ?_ GE311.out) | exact HB.out)) hb); clear BK311; clear HB; have HO315 := n0_; have BK311 := n1_; have HB := n2_; clear n0_ n1_ n2_; (try clear hb); (try clear hb2); (try clear hk); (try clear hi); (try clear ho0)))
      repeat (go_quiet (first | ((with_reducible refine gate_dst (N := 2) rfl ?_); refine box_event ?hg (N := 2) ?hd (cs := #[.int .i64 a0_0, .slice A0_1 l0_1.length c0_1]) (t := 24) ?hr ?_; (case hd => rfl); (case hg => rfl); (case hr => first | (go_simp; done) | (go_simp; rfl)); intro gb311 hg w8 hbox hb; have n0_ := Aside0.mk (below_step (by repeat (first | (with_reducible first | exact HB.out | apply below_alloc | apply pw_below_drewN | apply below_drew1) | exact HB.out)) hb); have n1_ := Aside0.mk (hbox); have n2_ := Aside0.mk ((by rw [hg]; exact (below_size (by repeat (first | (with_reducible first | exact HB.out | apply below_alloc | apply pw_below_drewN | apply below_drew1) | exact HB.out))) : w.heap.size ≤ gb311)); have n3_ := Aside0.mk ((by rw [hg]; exact (below_size (by repeat (first | (with_reducible first | exact HB.out | apply below_alloc | apply pw_below_drewN | apply below_drew1) | exact HB.out))) : w.heap.size ≤ gb311)); clear HB; have HB := n0_; have BK311 := n1_; have GW311 := n2_; have GE311 := n3_; clear n0_ n1_ n2_ n3_; clear hb hbox hg) | (go_at_call 12; (with_reducible refine (compasslaw04_awake.calls k  true _ A3.out).mono ?_); rintro e w9 ⟨rfl, hb⟩; have n0_ := Aside0.mk (blk_below (g := gb311) (o := .cells #[.int .i64 a0_0, .slice A0_1 l0_1.length c0_1] 24 (0, 0)) (by (with_reducible repeat (first | refine blk_drewN ?_ _ | refine blk_drew ?_ | refine blk_alloc ?_ _)); exact BK311.out) hb); have n1_ := Aside0.mk (below_step (by repeat (first | (with_reducible first | exact HB.out | apply below_alloc | apply pw_below_drewN | apply below_drew1 | refine below_set ?_ GE311.out) | exact HB.out)) hb); clear BK311; clear HB; have BK311 := n0_; have HB := n1_; clear n0_ n1_; (try clear hb); (try clear hb2); (try clear hk); (try clear hi); have hcz10_0 : w9.cell? ⟨gb311, 0, none⟩ = some (.int .i64 a0_0) := (blk_cell BK311.out 0).trans rfl; have hcz10_1 : w9.cell? ⟨gb311, 1, none⟩ = some (.slice A0_1 l0_1.length c0_1) := (blk_cell BK311.out 1).trans rfl; have hfz10_0 := blk_frozen BK311.out 0; have hfz10_1 := blk_frozen BK311.out 1) | (go_at_call 13; (with_reducible refine (walk_Levels.calls k a0_0 _ _ l0_1 a1 t313 t316 _ ?side1 ?side2 A5.out).mono ?_); (case side1 => repeat (first | exact (Kd.C_below HR0_1.out HB.out) | (with_reducible refine Kd.C_alloc ?_ _) | (with_reducible refine Kd.C_drewN ?_ _) | (with_reducible refine Kd.C_drew ?_))); (case side2 => exact HC0_1.out); rintro e w11 ⟨v314, rfl, ho0, hb⟩; have n0_ := Aside0.mk (Kd.R_lower ho0 (below_size (by repeat (first | (with_reducible first | exact HB.out | apply below_alloc | apply pw_below_drewN | apply below_drew1 | refine below_set ?_ GE311.out) | exact HB.out)))); have n1_ := Aside0.mk (blk_below (g := gb311) (o := .cells #[.int .i64 a0_0, .slice A0_1 l0_1.length c0_1] 24 (0, 0)) (by (with_reducible repeat (first | refine blk_drewN ?_ _ | refine blk_drew ?_ | refine blk_alloc ?_ _)); exact BK311.out) hb); have n2_ := Aside0.mk (below_step (by repeat (first | (with_reducible first | exact HB.out | apply below_alloc | apply pw_below_drewN | apply below_drew1 | refine below_set ?_ GE311.out) | exact HB.out)) hb); clear BK311; clear HB; have HO315 := n0_; have BK311 := n1_; have HB := n2_; clear n0_ n1_ n2_; (try clear hb); (try clear hb2); (try clear hk); (try clear hi); (try clear ho0))); go_upto_region 6 with (first | ((with_reducible refine gate_dst (N := 2) rfl ?_); refine box_event ?hg (N := 2) ?hd (cs := #[.int .i64 a0_0, .slice A0_1 l0_1.length c0_1]) (t := 24) ?hr ?_; (case hd => rfl); (case hg => rfl); (case hr => first | (go_simp; done) | (go_simp; rfl)); intro gb311 hg w8 hbox hb; have n0_ := Aside0.mk (below_step (by repeat (first | (with_reducible first | exact HB.out | apply below_alloc | apply pw_below_drewN | apply below_drew1) | exact HB.out)) hb); have n1_ := Aside0.mk (hbox); have n2_ := Aside0.mk ((by rw [hg]; exact (below_size (by repeat (first | (with_reducible first | exact HB.out | apply below_alloc | apply pw_below_drewN | apply below_drew1) | exact HB.out))) : w.heap.size ≤ gb311)); have n3_ := Aside0.mk ((by rw [hg]; exact (below_size (by repeat (first | (with_reducible first | exact HB.out | apply below_alloc | apply pw_below_drewN | apply below_drew1) | exact HB.out))) : w.heap.size ≤ gb311)); clear HB; have HB := n0_; have BK311 := n1_; have GW311 := n2_; have GE311 := n3_; clear n0_ n1_ n2_ n3_; clear hb hbox hg) | (go_at_call 12; (with_reducible refine (compasslaw04_awake.calls k  true _ A3.out).mono ?_); rintro e w9 ⟨rfl, hb⟩; have n0_ := Aside0.mk (blk_below (g := gb311) (o := .cells #[.int .i64 a0_0, .slice A0_1 l0_1.length c0_1] 24 (0, 0)) (by (with_reducible repeat (first | refine blk_drewN ?_ _ | refine blk_drew ?_ | refine blk_alloc ?_ _)); exact BK311.out) hb); have n1_ := Aside0.mk (below_step (by repeat (first | (with_reducible first | exact HB.out | apply below_alloc | apply pw_below_drewN | apply below_drew1 | refine below_set ?_ GE311.out) | exact HB.out)) hb); clear BK311; clear HB; have BK311 := n0_; have HB := n1_; clear n0_ n1_; (try clear hb); (try clear hb2); (try clear hk); (try clear hi); have hcz10_0 : w9.cell? ⟨gb311, 0, none⟩ = some (.int .i64 a0_0) := (blk_cell BK311.out 0).trans rfl; have hcz10_1 : w9.cell? ⟨gb311, 1, none⟩ = some (.slice A0_1 l0_1.length c0_1) := (blk_cell BK311.out 1).trans rfl; have hfz10_0 := blk_frozen BK311.out 0; have hfz10_1 := blk_frozen BK311.out 1) | (go_at_call 13; (with_reducible refine (walk_Levels.calls k a0_0 _ _ l0_1 a1 t313 t316 _ ?side1 ?side2 A5.out).mono ?_); (case side1 => repeat (first | exact (Kd.C_below HR0_1.out HB.out) | (with_reducible refine Kd.C_alloc ?_ _) | (with_reducible refine Kd.C_drewN ?_ _) | (with_reducible refine Kd.C_drew ?_))); (case side2 => exact HC0_1.out); rintro e w11 ⟨v314, rfl, ho0, hb⟩; have n0_ := Aside0.mk (Kd.R_lower ho0 (below_size (by repeat (first | (with_reducible first | exact HB.out | apply below_alloc | apply pw_below_drewN | apply below_drew1 | refine below_set ?_ GE311.out) | exact HB.out)))); have n1_ := Aside0.mk (blk_below (g := gb311) (o := .cells #[.int .i64 a0_0, .slice A0_1 l0_1.length c0_1] 24 (0, 0)) (by (with_reducible repeat (first | refine blk_drewN ?_ _ | refine blk_drew ?_ | refine blk_alloc ?_ _)); exact BK311.out) hb); have n2_ := Aside0.mk (below_step (by repeat (first | (with_reducible first | exact HB.out | apply below_alloc | apply pw_below_drewN | apply below_drew1 | refine below_set ?_ GE311.out) | exact HB.out)) hb); clear BK311; clear HB; have HO315 := n0_; have BK311 := n1_; have HB := n2_; clear n0_ n1_ n2_; (try clear hb); (try clear hb2); (try clear hk); (try clear hi); (try clear ho0))))
      (try simp only [Act.put, List.setIfInBounds_toArray, List.set_cons_zero, List.set_cons_succ])
      go_cut [38] (fun v38 wc => ∃ (kq : Nat) (x38_6 : Bool), v38 = .bool x38_6 ∧ Aside0 (compasslaw04_WalkNear.j0 kq a1 t313 x38_6 a0_0 l0_1 = some r) ∧ Aside0 (kq ≤ k) ∧ Aside0 (Kd.R (Kd.int .i64) 3 wc w.heap.size (fun _ => True) v314 t313) ∧ Aside0 (wc.heap[gb311]? = some (.cells #[.int .i64 a0_0, (.slice A0_1 l0_1.length c0_1)] 24 (0, 0))) ∧ Aside0 (Below w.heap.size w wc))
      case first =>
        have H := HC7.out
        clear HC7
        by_cases c12 : (t313.length : Int) = a0_0
        · rw [if_pos c12] at H
          have c12b0 : ((t313.length : Int) == a0_0) = true := beq_iff_eq.mpr c12
          have c12b1 : ((t313.length : Int) != a0_0) = false := bne_eq_false_iff_eq.mpr c12
          clear c12
          (first | rw [c12b0] | (simp only [i64_w, i32_w]; rw [c12b0]) | skip)
          by_cases c13 : 0 ≤ a1
          · rw [if_pos c13] at H
            have c13b0 : decide (0 ≤ a1) = true := decide_eq_true c13
            clear c13
            by_cases c14 : a1 < (t313.length : Int)
            · rw [if_pos c14] at H
              have c14b0 : decide (a1 < (t313.length : Int)) = true := decide_eq_true c14
              clear c14
              have H' := Aside0.mk H
              clear H
              obtain ⟨Ao15, co15, eo15⟩ := Kd.R_slice HO315.out
              subst eo15
              have hcz16_0 : w11.cell? ⟨gb311, 0, none⟩ = some (.int .i64 a0_0) := (blk_cell BK311.out 0).trans rfl
              have hcz16_1 : w11.cell? ⟨gb311, 1, none⟩ = some (.slice A0_1 l0_1.length c0_1) := (blk_cell BK311.out 1).trans rfl
              have hfz16_0 := blk_frozen BK311.out 0
              have hfz16_1 := blk_frozen BK311.out 1
              have p317 : 0 ≤ (a1 : Int) := of_decide_eq_true (by first | (with_reducible assumption) | assumption)
              have q317 : a1 < (t313.length : Int) := of_decide_eq_true (by first | (with_reducible assumption) | assumption)
              obtain ⟨ad317, e317, hx317_0⟩ := Kd.at_int (Kd.R_reads' HO315.out).2.2 a1 p317 q317
              cases e317
              replace p317 := eq_true p317
              replace q317 := eq_true q317
              go_wp2
              repeat (go_quiet (fail); try go_wp2)
              go_meet
              case rel => exact ⟨_, (((rd t313 a1) != 0)), (by first | rfl | (simp; done) | (simp [*]; done)), H', ⟨by first | omega | exact Nat.le_refl _⟩, ⟨by (with_reducible repeat (first | apply Kd.R_alloc | apply Kd.R_drewN | apply Kd.R_drew)); exact HO315.out⟩, ⟨by (with_reducible repeat (first | refine blk_drewN ?_ _ | refine blk_drew ?_ | refine blk_alloc ?_ _)); exact BK311.out⟩, ⟨by repeat (first | (with_reducible first | exact HB.out | apply below_alloc | apply pw_below_drewN | apply below_drew1 | refine below_set ?_ GE311.out) | exact HB.out)⟩⟩
            · rw [if_neg c14] at H
              exact absurd H (by simp)
          · rw [if_neg c13] at H
            exact absurd H (by simp)
        · rw [if_neg c12] at H
          have c12b0 : ((t313.length : Int) == a0_0) = false := beq_eq_false_iff_ne.mpr c12
          have c12b1 : ((t313.length : Int) != a0_0) = true := bne_iff_ne.mpr c12
          (first | rw [c12b0] | (simp only [i64_w, i32_w]; rw [c12b0]) | skip)
          have H' := Aside0.mk H
          clear H
          obtain ⟨Ao17, co17, eo17⟩ := Kd.R_slice HO315.out
          subst eo17
          have hcz18_0 : w11.cell? ⟨gb311, 0, none⟩ = some (.int .i64 a0_0) := (blk_cell BK311.out 0).trans rfl
          have hcz18_1 : w11.cell? ⟨gb311, 1, none⟩ = some (.slice A0_1 l0_1.length c0_1) := (blk_cell BK311.out 1).trans rfl
          have hfz18_0 := blk_frozen BK311.out 0
          have hfz18_1 := blk_frozen BK311.out 1
          go_wp2
          repeat (go_quiet (fail); try go_wp2)
          go_meet
          case rel => exact ⟨_, (true), (by first | rfl | (simp; done) | (simp [*]; done)), H', ⟨by first | omega | exact Nat.le_refl _⟩, ⟨by (with_reducible repeat (first | apply Kd.R_alloc | apply Kd.R_drewN | apply Kd.R_drew)); exact HO315.out⟩, ⟨by (with_reducible repeat (first | refine blk_drewN ?_ _ | refine blk_drew ?_ | refine blk_alloc ?_ _)); exact BK311.out⟩, ⟨by repeat (first | (with_reducible first | exact HB.out | apply below_alloc | apply pw_below_drewN | apply below_drew1 | refine below_set ?_ GE311.out) | exact HB.out)⟩⟩
      case rest =>
        clear HC7
        try clear c1
        try clear p2
        try clear p3
        try clear q3
        try clear hx3
        try clear c4
        try clear c5
        try clear c6
        try clear c6b0
        try clear c6b1
        try clear c12
        try clear c12b0
        try clear c12b1
        try clear c13
        try clear c13b0
        try clear c14
        try clear c14b0
        try clear hcz10_0
        try clear hcz10_1
        try clear hcz16_0
        try clear hcz16_1
        try clear hcz18_0
        try clear hcz18_1
        try clear hfz10_0
        try clear hfz10_1
        try clear hfz16_0
        try clear hfz16_1
        try clear hfz18_0
        try clear hfz18_1
        try clear hx317_0
        try clear p317
        try clear q317
        obtain ⟨kq, x38_6, rfl, HA, HJ6, HO_5, BK311, HB⟩ := hcut
        cases kq with
        | zero => exact absurd HA.out (by simp [compasslaw04_WalkNear.j0])
        | succ kj6 =>
          have H := HA.out
          clear HA
          simp only [compasslaw04_WalkNear.j0] at H
          by_cases c19 : x38_6 = true
          · subst c19
            have H1 : (some false) = some r := by rw [if_pos rfl] at H; exact H
            clear H
            have H := H1
            clear H1
            exact absurd ((Option.some.inj H).trans HR_.out) (by decide)
          · replace c19 := Bool.eq_false_iff.mpr c19
            subst c19
            have H1 : (if 0 ≤ a0_0 then (if (a0_0 : Int).toNat ≤ 281474976710656 then (compasslaw04_WalkNear.l0 kj6 a1 t313 (List.replicate (a0_0 : Int).toNat false) l0_1 (l0_1.length : Int) 0) else (none)) else (none)) = some r := by rw [if_neg (show ¬ (false = true) by decide)] at H; exact H
            clear H
            have H := H1
            clear H1
            by_cases c20 : 0 ≤ a0_0
            · rw [if_pos c20] at H
              have c20b0 := eq_true c20
              have c20b1 : decide (0 ≤ a0_0) = true := decide_eq_true c20
              clear c20
              by_cases c21 : (a0_0 : Int).toNat ≤ 281474976710656
              · rw [if_pos c21] at H
                have c21b0 := eq_true c21
                have c21b1 : decide ((a0_0 : Int).toNat ≤ 281474976710656) = true := decide_eq_true c21
                clear c21
                obtain ⟨y318, hy318⟩ : ∃ y_ : List Bool, y_ = (List.replicate (a0_0 : Int).toNat false) := ⟨_, rfl⟩
                replace H : (compasslaw04_WalkNear.l0 kj6 a1 t313 y318 l0_1 (l0_1.length : Int) 0) = some r := by first | (rw [hy318]; with_reducible exact H) | (have H2_ := (Option.bind_some _ _).symm.trans H; rw [hy318]; with_reducible exact H2_) | (have H2_ := (Option.bind_some _ _).symm.trans H; with_reducible exact H2_) | with_reducible exact H | (rw [hy318]; exact H) | exact H
                have Ny318 := Aside0.mk hy318
                clear hy318
                have H' := Aside0.mk H
                clear H
                have hcz22_0 : wc.cell? ⟨gb311, 0, none⟩ = some (.int .i64 a0_0) := (blk_cell BK311.out 0).trans rfl
                have hcz22_1 : wc.cell? ⟨gb311, 1, none⟩ = some (.slice A0_1 l0_1.length c0_1) := (blk_cell BK311.out 1).trans rfl
                have hfz22_0 := blk_frozen BK311.out 0
                have hfz22_1 := blk_frozen BK311.out 1
                go_wp2_with (first | ((with_reducible refine gate_dst (N := 41) rfl ?_); refine Kd.R_make Kd.bool _ 4 rfl (N := 41) rfl 39 _ _ rfl a0_0 rfl rfl Try.underlying39 (.bool false) 1 info4 rfl (by decide) (by omega) false (ok := fun _ => True) (okp := fun _ => True) rfl (fun _ hk => hk) trivial (of_decide_eq_true (by first | (with_reducible assumption) | assumption)) (Nat.le_trans (Nat.mul_le_mul_right _ (of_decide_eq_true (by first | (with_reducible assumption) | assumption) : a0_0.toNat ≤ 281474976710656)) (by omega)) (Below.refl _ _) (Nat.le_refl _) ?_; intro v319 w23 ho24 hb hg_ hnew_; clear hg_ hnew_; (first | rw [← Ny318.out] at ho24 | (simp only [Int.reduceToNat] at ho24; rw [← Ny318.out] at ho24)); have n0_ := Aside0.mk (Kd.R_below (by (with_reducible repeat (first | apply Kd.R_alloc | apply Kd.R_drewN | apply Kd.R_drew)); exact HO_5.out) hb); have n1_ := Aside0.mk (Kd.R_lower ho24 (below_size (by repeat (first | (with_reducible first | exact HB.out | apply below_alloc | apply pw_below_drewN | apply below_drew1 | refine below_set ?_ GE311.out) | exact HB.out)))); have n2_ := Aside0.mk (blk_below (g := gb311) (o := .cells #[.int .i64 a0_0, .slice A0_1 l0_1.length c0_1] 24 (0, 0)) (by (with_reducible repeat (first | refine blk_drewN ?_ _ | refine blk_drew ?_ | refine blk_alloc ?_ _)); exact BK311.out) hb); have n3_ := Aside0.mk (below_step (by repeat (first | (with_reducible first | exact HB.out | apply below_alloc | apply pw_below_drewN | apply below_drew1 | refine below_set ?_ GE311.out) | exact HB.out)) hb); clear HO_5; clear BK311; clear HB; have HO_5 := n0_; have HO320 := n1_; have BK311 := n2_; have HB := n3_; clear n0_ n1_ n2_ n3_; clear hb ho24; have hcz25_0 : w23.cell? ⟨gb311, 0, none⟩ = some (.int .i64 a0_0) := (blk_cell BK311.out 0).trans rfl; have hcz25_1 : w23.cell? ⟨gb311, 1, none⟩ = some (.slice A0_1 l0_1.length c0_1) := (blk_cell BK311.out 1).trans rfl; have hfz25_0 := blk_frozen BK311.out 0; have hfz25_1 := blk_frozen BK311.out 1))
                repeat (go_quiet (first | ((with_reducible refine gate_dst (N := 41) rfl ?_); refine Kd.R_make Kd.bool _ 4 rfl (N := 41) rfl 39 _ _ rfl a0_0 rfl rfl Try.underlying39 (.bool false) 1 info4 rfl (by decide) (by omega) false (ok := fun _ => True) (okp := fun _ => True) rfl (fun _ hk => hk) trivial (of_decide_eq_true (by first | (with_reducible assumption) | assumption)) (Nat.le_trans (Nat.mul_le_mul_right _ (of_decide_eq_true (by first | (with_reducible assumption) | assumption) : a0_0.toNat ≤ 281474976710656)) (by omega)) (Below.refl _ _) (Nat.le_refl _) ?_; intro v319 w23 ho24 hb hg_ hnew_; clear hg_ hnew_; (first | rw [← Ny318.out] at ho24 | (simp only [Int.reduceToNat] at ho24; rw [← Ny318.out] at ho24)); have n0_ := Aside0.mk (Kd.R_below (by (with_reducible repeat (first | apply Kd.R_alloc | apply Kd.R_drewN | apply Kd.R_drew)); exact HO_5.out) hb); have n1_ := Aside0.mk (Kd.R_lower ho24 (below_size (by repeat (first | (with_reducible first | exact HB.out | apply below_alloc | apply pw_below_drewN | apply below_drew1 | refine below_set ?_ GE311.out) | exact HB.out)))); have n2_ := Aside0.mk (blk_below (g := gb311) (o := .cells #[.int .i64 a0_0, .slice A0_1 l0_1.length c0_1] 24 (0, 0)) (by (with_reducible repeat (first | refine blk_drewN ?_ _ | refine blk_drew ?_ | refine blk_alloc ?_ _)); exact BK311.out) hb); have n3_ := Aside0.mk (below_step (by repeat (first | (with_reducible first | exact HB.out | apply below_alloc | apply pw_below_drewN | apply below_drew1 | refine below_set ?_ GE311.out) | exact HB.out)) hb); clear HO_5; clear BK311; clear HB; have HO_5 := n0_; have HO320 := n1_; have BK311 := n2_; have HB := n3_; clear n0_ n1_ n2_ n3_; clear hb ho24; have hcz25_0 : w23.cell? ⟨gb311, 0, none⟩ = some (.int .i64 a0_0) := (blk_cell BK311.out 0).trans rfl; have hcz25_1 : w23.cell? ⟨gb311, 1, none⟩ = some (.slice A0_1 l0_1.length c0_1) := (blk_cell BK311.out 1).trans rfl; have hfz25_0 := blk_frozen BK311.out 0; have hfz25_1 := blk_frozen BK311.out 1)); try go_wp2_with (first | ((with_reducible refine gate_dst (N := 41) rfl ?_); refine Kd.R_make Kd.bool _ 4 rfl (N := 41) rfl 39 _ _ rfl a0_0 rfl rfl Try.underlying39 (.bool false) 1 info4 rfl (by decide) (by omega) false (ok := fun _ => True) (okp := fun _ => True) rfl (fun _ hk => hk) trivial (of_decide_eq_true (by first | (with_reducible assumption) | assumption)) (Nat.le_trans (Nat.mul_le_mul_right _ (of_decide_eq_true (by first | (with_reducible assumption) | assumption) : a0_0.toNat ≤ 281474976710656)) (by omega)) (Below.refl _ _) (Nat.le_refl _) ?_; intro v319 w23 ho24 hb hg_ hnew_; clear hg_ hnew_; (first | rw [← Ny318.out] at ho24 | (simp only [Int.reduceToNat] at ho24; rw [← Ny318.out] at ho24)); have n0_ := Aside0.mk (Kd.R_below (by (with_reducible repeat (first | apply Kd.R_alloc | apply Kd.R_drewN | apply Kd.R_drew)); exact HO_5.out) hb); have n1_ := Aside0.mk (Kd.R_lower ho24 (below_size (by repeat (first | (with_reducible first | exact HB.out | apply below_alloc | apply pw_below_drewN | apply below_drew1 | refine below_set ?_ GE311.out) | exact HB.out)))); have n2_ := Aside0.mk (blk_below (g := gb311) (o := .cells #[.int .i64 a0_0, .slice A0_1 l0_1.length c0_1] 24 (0, 0)) (by (with_reducible repeat (first | refine blk_drewN ?_ _ | refine blk_drew ?_ | refine blk_alloc ?_ _)); exact BK311.out) hb); have n3_ := Aside0.mk (below_step (by repeat (first | (with_reducible first | exact HB.out | apply below_alloc | apply pw_below_drewN | apply below_drew1 | refine below_set ?_ GE311.out) | exact HB.out)) hb); clear HO_5; clear BK311; clear HB; have HO_5 := n0_; have HO320 := n1_; have BK311 := n2_; have HB := n3_; clear n0_ n1_ n2_ n3_; clear hb ho24; have hcz25_0 : w23.cell? ⟨gb311, 0, none⟩ = some (.int .i64 a0_0) := (blk_cell BK311.out 0).trans rfl; have hcz25_1 : w23.cell? ⟨gb311, 1, none⟩ = some (.slice A0_1 l0_1.length c0_1) := (blk_cell BK311.out 1).trans rfl; have hfz25_0 := blk_frozen BK311.out 0; have hfz25_1 := blk_frozen BK311.out 1)))
                go_loopg [45] kj6 (fun kq v45 w' => ∃ (x7_2 : List Bool) (x45_2 : Int), v45 = .int .i64 x45_2 ∧ Aside0 (compasslaw04_WalkNear.l0 kq a1 t313 x7_2 l0_1 (l0_1.length : Int) x45_2 = some r) ∧ Aside0 (kq ≤ kj6) ∧ Aside0 (Kd.R (Kd.int .i64) 3 w' w.heap.size (fun _ => True) v314 t313) ∧ Aside0 (Kd.R Kd.bool 4 w' w.heap.size (fun _ => True) v319 x7_2) ∧ Aside0 (w'.heap[gb311]? = some (.cells #[.int .i64 a0_0, (.slice A0_1 l0_1.length c0_1)] 24 (0, 0))) ∧ Aside0 (Below w.heap.size w w'))
                case atStart => exact ⟨(y318), (0), (by first | rfl | (simp; done) | (simp [*]; done)), H', ⟨Nat.le_refl _⟩, ⟨by (with_reducible repeat (first | apply Kd.R_alloc | apply Kd.R_drewN | apply Kd.R_drew)); exact HO_5.out⟩, ⟨by (with_reducible repeat (first | apply Kd.R_alloc | apply Kd.R_drewN | apply Kd.R_drew)); exact HO320.out⟩, ⟨by (with_reducible repeat (first | refine blk_drewN ?_ _ | refine blk_drew ?_ | refine blk_alloc ?_ _)); exact BK311.out⟩, ⟨by repeat (first | (with_reducible first | exact HB.out | apply below_alloc | apply pw_below_drewN | apply below_drew1 | refine below_set ?_ GE311.out) | exact HB.out)⟩⟩
                case round =>
                  clear H'
                  try clear c1
                  try clear c2
                  try clear p2
                  try clear p3
                  try clear q3
                  try clear hx3
                  try clear c4
                  try clear c5
                  try clear c6
                  try clear c6b0
                  try clear c6b1
                  try clear c12
                  try clear c12b0
                  try clear c12b1
                  try clear c13
                  try clear c13b0
                  try clear c14
                  try clear c14b0
                  try clear c19
                  try clear c20
                  try clear c20b0
                  try clear c20b1
                  try clear c21
                  try clear c21b0
                  try clear c21b1
                  try clear hcz10_0
                  try clear hcz10_1
                  try clear hcz16_0
                  try clear hcz16_1
                  try clear hcz18_0
                  try clear hcz18_1
                  try clear hcz22_0
                  try clear hcz22_1
                  try clear hcz25_0
                  try clear hcz25_1
                  try clear hfz10_0
                  try clear hfz10_1
                  try clear hfz16_0
                  try clear hfz16_1
                  try clear hfz18_0
                  try clear hfz18_1
                  try clear hfz22_0
                  try clear hfz22_1
                  try clear hfz25_0
                  try clear hfz25_1
                  try clear hx317_0
                  try clear p2
                  try clear p3
                  try clear p317
                  try clear q3
                  try clear q317
                  obtain ⟨x7_2, x45_2, rfl, HA, HK2, HO_5, HO_7, BK311, HB⟩ := hrel
                  cases gk with
                  | zero => exact absurd HA.out (by simp [compasslaw04_WalkNear.l0])
                  | succ k2 =>
                    have H := HA.out
                    clear HA
                    simp only [compasslaw04_WalkNear.l0] at H
                    by_cases c26 : x45_2 < (l0_1.length : Int)
                    · rw [if_pos c26] at H
                      have c26b0 : decide (x45_2 < (l0_1.length : Int)) = true := decide_eq_true c26
                      clear c26
                      by_cases c27 : 0 ≤ x45_2
                      · rw [if_pos c27] at H
                        have c27b0 : decide (0 ≤ x45_2) = true := decide_eq_true c27
                        clear c27
                        by_cases c28 : x45_2 < (l0_1.length : Int)
                        · rw [if_pos c28] at H
                          have c28b0 : decide (x45_2 < (l0_1.length : Int)) = true := decide_eq_true c28
                          clear c28
                          by_cases c29 : 0 ≤ ((rd_T41 l0_1 x45_2).f0)
                          · rw [if_pos c29] at H
                            have c29b0 : decide (0 ≤ ((rd_T41 l0_1 x45_2).f0)) = true := decide_eq_true c29
                            clear c29
                            by_cases c30 : ((rd_T41 l0_1 x45_2).f0) < (t313.length : Int)
                            · rw [if_pos c30] at H
                              have c30b0 : decide (((rd_T41 l0_1 x45_2).f0) < (t313.length : Int)) = true := decide_eq_true c30
                              clear c30
                              by_cases c31 : 0 ≤ ((rd_T41 l0_1 x45_2).f1)
                              · rw [if_pos c31] at H
                                have c31b0 : decide (0 ≤ ((rd_T41 l0_1 x45_2).f1)) = true := decide_eq_true c31
                                clear c31
                                by_cases c32 : ((rd_T41 l0_1 x45_2).f1) < (t313.length : Int)
                                · rw [if_pos c32] at H
                                  have c32b0 : decide (((rd_T41 l0_1 x45_2).f1) < (t313.length : Int)) = true := decide_eq_true c32
                                  clear c32
                                  have HC33 := Aside0.mk H
                                  clear H
                                  have p321 : 0 ≤ (x45_2 : Int) := of_decide_eq_true (by first | (with_reducible assumption) | assumption)
                                  have q321 : x45_2 < (l0_1.length : Int) := of_decide_eq_true (by first | (with_reducible assumption) | assumption)
                                  obtain ⟨ad321, e321, hx321_0, hx321_1, hx321_2, hx321_3⟩ := at_T41 HR0_1.out x45_2 p321 q321
                                  cases e321
                                  (try replace hx321_0 := (HB.out.cell (World.block_lt_of_cell? w _ hx321_0)).trans hx321_0)
                                  (try replace hx321_1 := (HB.out.cell (World.block_lt_of_cell? w _ hx321_1)).trans hx321_1)
                                  (try replace hx321_2 := (HB.out.cell (World.block_lt_of_cell? w _ hx321_2)).trans hx321_2)
                                  (try replace hx321_3 := (HB.out.cell (World.block_lt_of_cell? w _ hx321_3)).trans hx321_3)
                                  replace p321 := eq_true p321
                                  replace q321 := eq_true q321
                                  go_upto_region 13 with (first | ((with_reducible refine gate_dst (N := 9) rfl ?_); refine box_event ?hg (N := 9) ?hd (cs := #[.int .i64 0, .int .i64 0, .int .i64 0, .int .i64 0]) (t := 41) ?hr ?_; (case hd => rfl); (case hg => rfl); (case hr => first | (go_simp; done) | (go_simp; rfl)); intro gb322 hg w34 hbox hb; have n0_ := Aside0.mk (Kd.R_below (by (with_reducible repeat (first | apply Kd.R_alloc | apply Kd.R_drewN | apply Kd.R_drew)); exact HO_5.out) hb); have n1_ := Aside0.mk (Kd.R_below (by (with_reducible repeat (first | apply Kd.R_alloc | apply Kd.R_drewN | apply Kd.R_drew)); exact HO_7.out) hb); have n2_ := Aside0.mk (blk_below (g := gb311) (o := .cells #[.int .i64 a0_0, .slice (some ad321) l0_1.length c0_1] 24 (0, 0)) (by (with_reducible repeat (first | refine blk_drewN ?_ _ | refine blk_drew ?_ | refine blk_alloc ?_ _)); exact BK311.out) hb); have n3_ := Aside0.mk (below_step (by repeat (first | (with_reducible first | exact HB.out | apply below_alloc | apply pw_below_drewN | apply below_drew1 | refine below_set ?_ GE311.out) | exact HB.out)) hb); have n4_ := Aside0.mk (hbox); have n5_ := Aside0.mk ((by rw [hg]; exact (below_size (by repeat (first | (with_reducible first | exact HB.out | apply below_alloc | apply pw_below_drewN | apply below_drew1 | refine below_set ?_ GE311.out) | exact HB.out))) : w.heap.size ≤ gb322)); have n6_ := Aside0.mk ((by rw [hg]; exact (below_size (by repeat (first | (with_reducible first | exact HB.out | apply below_alloc | apply pw_below_drewN | apply below_drew1 | refine below_set ?_ GE311.out) | exact HB.out))) : w.heap.size ≤ gb322)); have n7_ := Aside0.mk ((by rw [hg]; exact Nat.ne_of_lt (blk_lt (g := gb311) (o := .cells #[.int .i64 a0_0, .slice (some ad321) l0_1.length c0_1] 24 (0, 0)) (by (with_reducible repeat (first | refine blk_drewN ?_ _ | refine blk_drew ?_ | refine blk_alloc ?_ _)); exact BK311.out)) : gb311 ≠ gb322)); have n8_ := Aside0.mk ((by rw [hg]; exact Nat.ne_of_gt (blk_lt (g := gb311) (o := .cells #[.int .i64 a0_0, .slice (some ad321) l0_1.length c0_1] 24 (0, 0)) (by (with_reducible repeat (first | refine blk_drewN ?_ _ | refine blk_drew ?_ | refine blk_alloc ?_ _)); exact BK311.out)) : gb322 ≠ gb311)); clear HO_5; clear HO_7; clear BK311; clear HB; have HO_5 := n0_; have HO_7 := n1_; have BK311 := n2_; have HB := n3_; have BK322 := n4_; have GW322 := n5_; have GE322 := n6_; have NB311_322 := n7_; have NB322_311 := n8_; clear n0_ n1_ n2_ n3_ n4_ n5_ n6_ n7_ n8_; clear hb hbox hg; have hnb35 := NB322_311.out; have hnc35 := NB311_322.out; have hcz36_0 : w34.cell? ⟨gb322, 0, none⟩ = some (.int .i64 0) := (blk_cell BK322.out 0).trans rfl; have hcz36_1 : w34.cell? ⟨gb322, 1, none⟩ = some (.int .i64 0) := (blk_cell BK322.out 1).trans rfl; have hcz36_2 : w34.cell? ⟨gb322, 2, none⟩ = some (.int .i64 0) := (blk_cell BK322.out 2).trans rfl; have hcz36_3 : w34.cell? ⟨gb322, 3, none⟩ = some (.int .i64 0) := (blk_cell BK322.out 3).trans rfl; have hfz36_0 := blk_frozen BK322.out 0; have hfz36_1 := blk_frozen BK322.out 1; have hfz36_2 := blk_frozen BK322.out 2; have hfz36_3 := blk_frozen BK322.out 3; obtain ⟨Ao37, co37, eo37⟩ := Kd.R_slice HO_5.out; subst eo37; have p323 : 0 ≤ (((rd_T41 l0_1 x45_2).f0) : Int) := of_decide_eq_true (by first | (with_reducible assumption) | assumption); have q323 : ((rd_T41 l0_1 x45_2).f0) < (t313.length : Int) := of_decide_eq_true (by first | (with_reducible assumption) | assumption); obtain ⟨ad323, e323, hx323_0⟩ := Kd.at_int (Kd.R_reads' HO_5.out).2.2 ((rd_T41 l0_1 x45_2).f0) p323 q323; cases e323; have hn323_0 : ad323.block ≠ gb322 := Kd.own_blk (Kd.R_ne HO_5.out BK322.out (by decide)); have hn323_1 : ad323.block ≠ gb322 := Kd.own_blk (Kd.R_ne HO_5.out BK322.out (by decide)); have hn323_2 : ad323.block ≠ gb322 := Kd.own_blk (Kd.R_ne HO_5.out BK322.out (by decide)); have hn323_3 : ad323.block ≠ gb322 := Kd.own_blk (Kd.R_ne HO_5.out BK322.out (by decide)); replace hx323_0 := (cell_far (p := ⟨gb322, 0, none⟩) (by first | (rw [add_block]; exact hn323_0) | (show (Addr.add _ _).block ≠ _; rw [add_block]; exact hn323_0) | exact hn323_0) (.int .i64 ((rd_T41 l0_1 x45_2).f0))).trans hx323_0; replace hx323_0 := (cell_far (p := ⟨gb322, 1, none⟩) (by first | (rw [add_block]; exact hn323_1) | (show (Addr.add _ _).block ≠ _; rw [add_block]; exact hn323_1) | exact hn323_1) (.int .i64 ((rd_T41 l0_1 x45_2).f1))).trans hx323_0; replace hx323_0 := (cell_far (p := ⟨gb322, 2, none⟩) (by first | (rw [add_block]; exact hn323_2) | (show (Addr.add _ _).block ≠ _; rw [add_block]; exact hn323_2) | exact hn323_2) (.int .i64 ((rd_T41 l0_1 x45_2).f2))).trans hx323_0; replace hx323_0 := (cell_far (p := ⟨gb322, 3, none⟩) (by first | (rw [add_block]; exact hn323_3) | (show (Addr.add _ _).block ≠ _; rw [add_block]; exact hn323_3) | exact hn323_3) (.int .i64 ((rd_T41 l0_1 x45_2).f3))).trans hx323_0; (try have hy323_0 := fun (n_ : Nat) => (show ((((((w34.drewN n_).setCell ⟨gb322, 0, none⟩ (.int .i64 ((rd_T41 l0_1 x45_2).f0))).setCell ⟨gb322, 1, none⟩ (.int .i64 ((rd_T41 l0_1 x45_2).f1))).setCell ⟨gb322, 2, none⟩ (.int .i64 ((rd_T41 l0_1 x45_2).f2))).setCell ⟨gb322, 3, none⟩ (.int .i64 ((rd_T41 l0_1 x45_2).f3)))).cell? _ = some _ from hx323_0)); clear hn323_0; clear hn323_1; clear hn323_2; clear hn323_3; replace p323 := eq_true p323; replace q323 := eq_true q323; have p324 : 0 ≤ (((rd_T41 l0_1 x45_2).f1) : Int) := of_decide_eq_true (by first | (with_reducible assumption) | assumption); have q324 : ((rd_T41 l0_1 x45_2).f1) < (t313.length : Int) := of_decide_eq_true (by first | (with_reducible assumption) | assumption); obtain ⟨ad324, e324, hx324_0⟩ := Kd.at_int (Kd.R_reads' HO_5.out).2.2 ((rd_T41 l0_1 x45_2).f1) p324 q324; obtain rfl : ad323 = ad324 := (by injection e324); have hn324_0 : ad323.block ≠ gb322 := Kd.own_blk (Kd.R_ne HO_5.out BK322.out (by decide)); have hn324_1 : ad323.block ≠ gb322 := Kd.own_blk (Kd.R_ne HO_5.out BK322.out (by decide)); have hn324_2 : ad323.block ≠ gb322 := Kd.own_blk (Kd.R_ne HO_5.out BK322.out (by decide)); have hn324_3 : ad323.block ≠ gb322 := Kd.own_blk (Kd.R_ne HO_5.out BK322.out (by decide)); replace hx324_0 := (cell_far (p := ⟨gb322, 0, none⟩) (by first | (rw [add_block]; exact hn324_0) | (show (Addr.add _ _).block ≠ _; rw [add_block]; exact hn324_0) | exact hn324_0) (.int .i64 ((rd_T41 l0_1 x45_2).f0))).trans hx324_0; replace hx324_0 := (cell_far (p := ⟨gb322, 1, none⟩) (by first | (rw [add_block]; exact hn324_1) | (show (Addr.add _ _).block ≠ _; rw [add_block]; exact hn324_1) | exact hn324_1) (.int .i64 ((rd_T41 l0_1 x45_2).f1))).trans hx324_0; replace hx324_0 := (cell_far (p := ⟨gb322, 2, none⟩) (by first | (rw [add_block]; exact hn324_2) | (show (Addr.add _ _).block ≠ _; rw [add_block]; exact hn324_2) | exact hn324_2) (.int .i64 ((rd_T41 l0_1 x45_2).f2))).trans hx324_0; replace hx324_0 := (cell_far (p := ⟨gb322, 3, none⟩) (by first | (rw [add_block]; exact hn324_3) | (show (Addr.add _ _).block ≠ _; rw [add_block]; exact hn324_3) | exact hn324_3) (.int .i64 ((rd_T41 l0_1 x45_2).f3))).trans hx324_0; (try have hy324_0 := fun (n_ : Nat) => (show ((((((w34.drewN n_).setCell ⟨gb322, 0, none⟩ (.int .i64 ((rd_T41 l0_1 x45_2).f0))).setCell ⟨gb322, 1, none⟩ (.int .i64 ((rd_T41 l0_1 x45_2).f1))).setCell ⟨gb322, 2, none⟩ (.int .i64 ((rd_T41 l0_1 x45_2).f2))).setCell ⟨gb322, 3, none⟩ (.int .i64 ((rd_T41 l0_1 x45_2).f3)))).cell? _ = some _ from hx324_0)); clear hn324_0; clear hn324_1; clear hn324_2; clear hn324_3; replace p324 := eq_true p324; replace q324 := eq_true q324))
                                  repeat (go_quiet (first | ((with_reducible refine gate_dst (N := 9) rfl ?_); refine box_event ?hg (N := 9) ?hd (cs := #[.int .i64 0, .int .i64 0, .int .i64 0, .int .i64 0]) (t := 41) ?hr ?_; (case hd => rfl); (case hg => rfl); (case hr => first | (go_simp; done) | (go_simp; rfl)); intro gb322 hg w34 hbox hb; have n0_ := Aside0.mk (Kd.R_below (by (with_reducible repeat (first | apply Kd.R_alloc | apply Kd.R_drewN | apply Kd.R_drew)); exact HO_5.out) hb); have n1_ := Aside0.mk (Kd.R_below (by (with_reducible repeat (first | apply Kd.R_alloc | apply Kd.R_drewN | apply Kd.R_drew)); exact HO_7.out) hb); have n2_ := Aside0.mk (blk_below (g := gb311) (o := .cells #[.int .i64 a0_0, .slice (some ad321) l0_1.length c0_1] 24 (0, 0)) (by (with_reducible repeat (first | refine blk_drewN ?_ _ | refine blk_drew ?_ | refine blk_alloc ?_ _)); exact BK311.out) hb); have n3_ := Aside0.mk (below_step (by repeat (first | (with_reducible first | exact HB.out | apply below_alloc | apply pw_below_drewN | apply below_drew1 | refine below_set ?_ GE311.out) | exact HB.out)) hb); have n4_ := Aside0.mk (hbox); have n5_ := Aside0.mk ((by rw [hg]; exact (below_size (by repeat (first | (with_reducible first | exact HB.out | apply below_alloc | apply pw_below_drewN | apply below_drew1 | refine below_set ?_ GE311.out) | exact HB.out))) : w.heap.size ≤ gb322)); have n6_ := Aside0.mk ((by rw [hg]; exact (below_size (by repeat (first | (with_reducible first | exact HB.out | apply below_alloc | apply pw_below_drewN | apply below_drew1 | refine below_set ?_ GE311.out) | exact HB.out))) : w.heap.size ≤ gb322)); have n7_ := Aside0.mk ((by rw [hg]; exact Nat.ne_of_lt (blk_lt (g := gb311) (o := .cells #[.int .i64 a0_0, .slice (some ad321) l0_1.length c0_1] 24 (0, 0)) (by (with_reducible repeat (first | refine blk_drewN ?_ _ | refine blk_drew ?_ | refine blk_alloc ?_ _)); exact BK311.out)) : gb311 ≠ gb322)); have n8_ := Aside0.mk ((by rw [hg]; exact Nat.ne_of_gt (blk_lt (g := gb311) (o := .cells #[.int .i64 a0_0, .slice (some ad321) l0_1.length c0_1] 24 (0, 0)) (by (with_reducible repeat (first | refine blk_drewN ?_ _ | refine blk_drew ?_ | refine blk_alloc ?_ _)); exact BK311.out)) : gb322 ≠ gb311)); clear HO_5; clear HO_7; clear BK311; clear HB; have HO_5 := n0_; have HO_7 := n1_; have BK311 := n2_; have HB := n3_; have BK322 := n4_; have GW322 := n5_; have GE322 := n6_; have NB311_322 := n7_; have NB322_311 := n8_; clear n0_ n1_ n2_ n3_ n4_ n5_ n6_ n7_ n8_; clear hb hbox hg; have hnb35 := NB322_311.out; have hnc35 := NB311_322.out; have hcz36_0 : w34.cell? ⟨gb322, 0, none⟩ = some (.int .i64 0) := (blk_cell BK322.out 0).trans rfl; have hcz36_1 : w34.cell? ⟨gb322, 1, none⟩ = some (.int .i64 0) := (blk_cell BK322.out 1).trans rfl; have hcz36_2 : w34.cell? ⟨gb322, 2, none⟩ = some (.int .i64 0) := (blk_cell BK322.out 2).trans rfl; have hcz36_3 : w34.cell? ⟨gb322, 3, none⟩ = some (.int .i64 0) := (blk_cell BK322.out 3).trans rfl; have hfz36_0 := blk_frozen BK322.out 0; have hfz36_1 := blk_frozen BK322.out 1; have hfz36_2 := blk_frozen BK322.out 2; have hfz36_3 := blk_frozen BK322.out 3; obtain ⟨Ao37, co37, eo37⟩ := Kd.R_slice HO_5.out; subst eo37; have p323 : 0 ≤ (((rd_T41 l0_1 x45_2).f0) : Int) := of_decide_eq_true (by first | (with_reducible assumption) | assumption); have q323 : ((rd_T41 l0_1 x45_2).f0) < (t313.length : Int) := of_decide_eq_true (by first | (with_reducible assumption) | assumption); obtain ⟨ad323, e323, hx323_0⟩ := Kd.at_int (Kd.R_reads' HO_5.out).2.2 ((rd_T41 l0_1 x45_2).f0) p323 q323; cases e323; have hn323_0 : ad323.block ≠ gb322 := Kd.own_blk (Kd.R_ne HO_5.out BK322.out (by decide)); have hn323_1 : ad323.block ≠ gb322 := Kd.own_blk (Kd.R_ne HO_5.out BK322.out (by decide)); have hn323_2 : ad323.block ≠ gb322 := Kd.own_blk (Kd.R_ne HO_5.out BK322.out (by decide)); have hn323_3 : ad323.block ≠ gb322 := Kd.own_blk (Kd.R_ne HO_5.out BK322.out (by decide)); replace hx323_0 := (cell_far (p := ⟨gb322, 0, none⟩) (by first | (rw [add_block]; exact hn323_0) | (show (Addr.add _ _).block ≠ _; rw [add_block]; exact hn323_0) | exact hn323_0) (.int .i64 ((rd_T41 l0_1 x45_2).f0))).trans hx323_0; replace hx323_0 := (cell_far (p := ⟨gb322, 1, none⟩) (by first | (rw [add_block]; exact hn323_1) | (show (Addr.add _ _).block ≠ _; rw [add_block]; exact hn323_1) | exact hn323_1) (.int .i64 ((rd_T41 l0_1 x45_2).f1))).trans hx323_0; replace hx323_0 := (cell_far (p := ⟨gb322, 2, none⟩) (by first | (rw [add_block]; exact hn323_2) | (show (Addr.add _ _).block ≠ _; rw [add_block]; exact hn323_2) | exact hn323_2) (.int .i64 ((rd_T41 l0_1 x45_2).f2))).trans hx323_0; replace hx323_0 := (cell_far (p := ⟨gb322, 3, none⟩) (by first | (rw [add_block]; exact hn323_3) | (show (Addr.add _ _).block ≠ _; rw [add_block]; exact hn323_3) | exact hn323_3) (.int .i64 ((rd_T41 l0_1 x45_2).f3))).trans hx323_0; (try have hy323_0 := fun (n_ : Nat) => (show ((((((w34.drewN n_).setCell ⟨gb322, 0, none⟩ (.int .i64 ((rd_T41 l0_1 x45_2).f0))).setCell ⟨gb322, 1, none⟩ (.int .i64 ((rd_T41 l0_1 x45_2).f1))).setCell ⟨gb322, 2, none⟩ (.int .i64 ((rd_T41 l0_1 x45_2).f2))).setCell ⟨gb322, 3, none⟩ (.int .i64 ((rd_T41 l0_1 x45_2).f3)))).cell? _ = some _ from hx323_0)); clear hn323_0; clear hn323_1; clear hn323_2; clear hn323_3; replace p323 := eq_true p323; replace q323 := eq_true q323; have p324 : 0 ≤ (((rd_T41 l0_1 x45_2).f1) : Int) := of_decide_eq_true (by first | (with_reducible assumption) | assumption); have q324 : ((rd_T41 l0_1 x45_2).f1) < (t313.length : Int) := of_decide_eq_true (by first | (with_reducible assumption) | assumption); obtain ⟨ad324, e324, hx324_0⟩ := Kd.at_int (Kd.R_reads' HO_5.out).2.2 ((rd_T41 l0_1 x45_2).f1) p324 q324; obtain rfl : ad323 = ad324 := (by injection e324); have hn324_0 : ad323.block ≠ gb322 := Kd.own_blk (Kd.R_ne HO_5.out BK322.out (by decide)); have hn324_1 : ad323.block ≠ gb322 := Kd.own_blk (Kd.R_ne HO_5.out BK322.out (by decide)); have hn324_2 : ad323.block ≠ gb322 := Kd.own_blk (Kd.R_ne HO_5.out BK322.out (by decide)); have hn324_3 : ad323.block ≠ gb322 := Kd.own_blk (Kd.R_ne HO_5.out BK322.out (by decide)); replace hx324_0 := (cell_far (p := ⟨gb322, 0, none⟩) (by first | (rw [add_block]; exact hn324_0) | (show (Addr.add _ _).block ≠ _; rw [add_block]; exact hn324_0) | exact hn324_0) (.int .i64 ((rd_T41 l0_1 x45_2).f0))).trans hx324_0; replace hx324_0 := (cell_far (p := ⟨gb322, 1, none⟩) (by first | (rw [add_block]; exact hn324_1) | (show (Addr.add _ _).block ≠ _; rw [add_block]; exact hn324_1) | exact hn324_1) (.int .i64 ((rd_T41 l0_1 x45_2).f1))).trans hx324_0; replace hx324_0 := (cell_far (p := ⟨gb322, 2, none⟩) (by first | (rw [add_block]; exact hn324_2) | (show (Addr.add _ _).block ≠ _; rw [add_block]; exact hn324_2) | exact hn324_2) (.int .i64 ((rd_T41 l0_1 x45_2).f2))).trans hx324_0; replace hx324_0 := (cell_far (p := ⟨gb322, 3, none⟩) (by first | (rw [add_block]; exact hn324_3) | (show (Addr.add _ _).block ≠ _; rw [add_block]; exact hn324_3) | exact hn324_3) (.int .i64 ((rd_T41 l0_1 x45_2).f3))).trans hx324_0; (try have hy324_0 := fun (n_ : Nat) => (show ((((((w34.drewN n_).setCell ⟨gb322, 0, none⟩ (.int .i64 ((rd_T41 l0_1 x45_2).f0))).setCell ⟨gb322, 1, none⟩ (.int .i64 ((rd_T41 l0_1 x45_2).f1))).setCell ⟨gb322, 2, none⟩ (.int .i64 ((rd_T41 l0_1 x45_2).f2))).setCell ⟨gb322, 3, none⟩ (.int .i64 ((rd_T41 l0_1 x45_2).f3)))).cell? _ = some _ from hx324_0)); clear hn324_0; clear hn324_1; clear hn324_2; clear hn324_3; replace p324 := eq_true p324; replace q324 := eq_true q324)); go_upto_region 13 with (first | ((with_reducible refine gate_dst (N := 9) rfl ?_); refine box_event ?hg (N := 9) ?hd (cs := #[.int .i64 0, .int .i64 0, .int .i64 0, .int .i64 0]) (t := 41) ?hr ?_; (case hd => rfl); (case hg => rfl); (case hr => first | (go_simp; done) | (go_simp; rfl)); intro gb322 hg w34 hbox hb; have n0_ := Aside0.mk (Kd.R_below (by (with_reducible repeat (first | apply Kd.R_alloc | apply Kd.R_drewN | apply Kd.R_drew)); exact HO_5.out) hb); have n1_ := Aside0.mk (Kd.R_below (by (with_reducible repeat (first | apply Kd.R_alloc | apply Kd.R_drewN | apply Kd.R_drew)); exact HO_7.out) hb); have n2_ := Aside0.mk (blk_below (g := gb311) (o := .cells #[.int .i64 a0_0, .slice (some ad321) l0_1.length c0_1] 24 (0, 0)) (by (with_reducible repeat (first | refine blk_drewN ?_ _ | refine blk_drew ?_ | refine blk_alloc ?_ _)); exact BK311.out) hb); have n3_ := Aside0.mk (below_step (by repeat (first | (with_reducible first | exact HB.out | apply below_alloc | apply pw_below_drewN | apply below_drew1 | refine below_set ?_ GE311.out) | exact HB.out)) hb); have n4_ := Aside0.mk (hbox); have n5_ := Aside0.mk ((by rw [hg]; exact (below_size (by repeat (first | (with_reducible first | exact HB.out | apply below_alloc | apply pw_below_drewN | apply below_drew1 | refine below_set ?_ GE311.out) | exact HB.out))) : w.heap.size ≤ gb322)); have n6_ := Aside0.mk ((by rw [hg]; exact (below_size (by repeat (first | (with_reducible first | exact HB.out | apply below_alloc | apply pw_below_drewN | apply below_drew1 | refine below_set ?_ GE311.out) | exact HB.out))) : w.heap.size ≤ gb322)); have n7_ := Aside0.mk ((by rw [hg]; exact Nat.ne_of_lt (blk_lt (g := gb311) (o := .cells #[.int .i64 a0_0, .slice (some ad321) l0_1.length c0_1] 24 (0, 0)) (by (with_reducible repeat (first | refine blk_drewN ?_ _ | refine blk_drew ?_ | refine blk_alloc ?_ _)); exact BK311.out)) : gb311 ≠ gb322)); have n8_ := Aside0.mk ((by rw [hg]; exact Nat.ne_of_gt (blk_lt (g := gb311) (o := .cells #[.int .i64 a0_0, .slice (some ad321) l0_1.length c0_1] 24 (0, 0)) (by (with_reducible repeat (first | refine blk_drewN ?_ _ | refine blk_drew ?_ | refine blk_alloc ?_ _)); exact BK311.out)) : gb322 ≠ gb311)); clear HO_5; clear HO_7; clear BK311; clear HB; have HO_5 := n0_; have HO_7 := n1_; have BK311 := n2_; have HB := n3_; have BK322 := n4_; have GW322 := n5_; have GE322 := n6_; have NB311_322 := n7_; have NB322_311 := n8_; clear n0_ n1_ n2_ n3_ n4_ n5_ n6_ n7_ n8_; clear hb hbox hg; have hnb35 := NB322_311.out; have hnc35 := NB311_322.out; have hcz36_0 : w34.cell? ⟨gb322, 0, none⟩ = some (.int .i64 0) := (blk_cell BK322.out 0).trans rfl; have hcz36_1 : w34.cell? ⟨gb322, 1, none⟩ = some (.int .i64 0) := (blk_cell BK322.out 1).trans rfl; have hcz36_2 : w34.cell? ⟨gb322, 2, none⟩ = some (.int .i64 0) := (blk_cell BK322.out 2).trans rfl; have hcz36_3 : w34.cell? ⟨gb322, 3, none⟩ = some (.int .i64 0) := (blk_cell BK322.out 3).trans rfl; have hfz36_0 := blk_frozen BK322.out 0; have hfz36_1 := blk_frozen BK322.out 1; have hfz36_2 := blk_frozen BK322.out 2; have hfz36_3 := blk_frozen BK322.out 3; obtain ⟨Ao37, co37, eo37⟩ := Kd.R_slice HO_5.out; subst eo37; have p323 : 0 ≤ (((rd_T41 l0_1 x45_2).f0) : Int) := of_decide_eq_true (by first | (with_reducible assumption) | assumption); have q323 : ((rd_T41 l0_1 x45_2).f0) < (t313.length : Int) := of_decide_eq_true (by first | (with_reducible assumption) | assumption); obtain ⟨ad323, e323, hx323_0⟩ := Kd.at_int (Kd.R_reads' HO_5.out).2.2 ((rd_T41 l0_1 x45_2).f0) p323 q323; cases e323; have hn323_0 : ad323.block ≠ gb322 := Kd.own_blk (Kd.R_ne HO_5.out BK322.out (by decide)); have hn323_1 : ad323.block ≠ gb322 := Kd.own_blk (Kd.R_ne HO_5.out BK322.out (by decide)); have hn323_2 : ad323.block ≠ gb322 := Kd.own_blk (Kd.R_ne HO_5.out BK322.out (by decide)); have hn323_3 : ad323.block ≠ gb322 := Kd.own_blk (Kd.R_ne HO_5.out BK322.out (by decide)); replace hx323_0 := (cell_far (p := ⟨gb322, 0, none⟩) (by first | (rw [add_block]; exact hn323_0) | (show (Addr.add _ _).block ≠ _; rw [add_block]; exact hn323_0) | exact hn323_0) (.int .i64 ((rd_T41 l0_1 x45_2).f0))).trans hx323_0; replace hx323_0 := (cell_far (p := ⟨gb322, 1, none⟩) (by first | (rw [add_block]; exact hn323_1) | (show (Addr.add _ _).block ≠ _; rw [add_block]; exact hn323_1) | exact hn323_1) (.int .i64 ((rd_T41 l0_1 x45_2).f1))).trans hx323_0; replace hx323_0 := (cell_far (p := ⟨gb322, 2, none⟩) (by first | (rw [add_block]; exact hn323_2) | (show (Addr.add _ _).block ≠ _; rw [add_block]; exact hn323_2) | exact hn323_2) (.int .i64 ((rd_T41 l0_1 x45_2).f2))).trans hx323_0; replace hx323_0 := (cell_far (p := ⟨gb322, 3, none⟩) (by first | (rw [add_block]; exact hn323_3) | (show (Addr.add _ _).block ≠ _; rw [add_block]; exact hn323_3) | exact hn323_3) (.int .i64 ((rd_T41 l0_1 x45_2).f3))).trans hx323_0; (try have hy323_0 := fun (n_ : Nat) => (show ((((((w34.drewN n_).setCell ⟨gb322, 0, none⟩ (.int .i64 ((rd_T41 l0_1 x45_2).f0))).setCell ⟨gb322, 1, none⟩ (.int .i64 ((rd_T41 l0_1 x45_2).f1))).setCell ⟨gb322, 2, none⟩ (.int .i64 ((rd_T41 l0_1 x45_2).f2))).setCell ⟨gb322, 3, none⟩ (.int .i64 ((rd_T41 l0_1 x45_2).f3)))).cell? _ = some _ from hx323_0)); clear hn323_0; clear hn323_1; clear hn323_2; clear hn323_3; replace p323 := eq_true p323; replace q323 := eq_true q323; have p324 : 0 ≤ (((rd_T41 l0_1 x45_2).f1) : Int) := of_decide_eq_true (by first | (with_reducible assumption) | assumption); have q324 : ((rd_T41 l0_1 x45_2).f1) < (t313.length : Int) := of_decide_eq_true (by first | (with_reducible assumption) | assumption); obtain ⟨ad324, e324, hx324_0⟩ := Kd.at_int (Kd.R_reads' HO_5.out).2.2 ((rd_T41 l0_1 x45_2).f1) p324 q324; obtain rfl : ad323 = ad324 := (by injection e324); have hn324_0 : ad323.block ≠ gb322 := Kd.own_blk (Kd.R_ne HO_5.out BK322.out (by decide)); have hn324_1 : ad323.block ≠ gb322 := Kd.own_blk (Kd.R_ne HO_5.out BK322.out (by decide)); have hn324_2 : ad323.block ≠ gb322 := Kd.own_blk (Kd.R_ne HO_5.out BK322.out (by decide)); have hn324_3 : ad323.block ≠ gb322 := Kd.own_blk (Kd.R_ne HO_5.out BK322.out (by decide)); replace hx324_0 := (cell_far (p := ⟨gb322, 0, none⟩) (by first | (rw [add_block]; exact hn324_0) | (show (Addr.add _ _).block ≠ _; rw [add_block]; exact hn324_0) | exact hn324_0) (.int .i64 ((rd_T41 l0_1 x45_2).f0))).trans hx324_0; replace hx324_0 := (cell_far (p := ⟨gb322, 1, none⟩) (by first | (rw [add_block]; exact hn324_1) | (show (Addr.add _ _).block ≠ _; rw [add_block]; exact hn324_1) | exact hn324_1) (.int .i64 ((rd_T41 l0_1 x45_2).f1))).trans hx324_0; replace hx324_0 := (cell_far (p := ⟨gb322, 2, none⟩) (by first | (rw [add_block]; exact hn324_2) | (show (Addr.add _ _).block ≠ _; rw [add_block]; exact hn324_2) | exact hn324_2) (.int .i64 ((rd_T41 l0_1 x45_2).f2))).trans hx324_0; replace hx324_0 := (cell_far (p := ⟨gb322, 3, none⟩) (by first | (rw [add_block]; exact hn324_3) | (show (Addr.add _ _).block ≠ _; rw [add_block]; exact hn324_3) | exact hn324_3) (.int .i64 ((rd_T41 l0_1 x45_2).f3))).trans hx324_0; (try have hy324_0 := fun (n_ : Nat) => (show ((((((w34.drewN n_).setCell ⟨gb322, 0, none⟩ (.int .i64 ((rd_T41 l0_1 x45_2).f0))).setCell ⟨gb322, 1, none⟩ (.int .i64 ((rd_T41 l0_1 x45_2).f1))).setCell ⟨gb322, 2, none⟩ (.int .i64 ((rd_T41 l0_1 x45_2).f2))).setCell ⟨gb322, 3, none⟩ (.int .i64 ((rd_T41 l0_1 x45_2).f3)))).cell? _ = some _ from hx324_0)); clear hn324_0; clear hn324_1; clear hn324_2; clear hn324_3; replace p324 := eq_true p324; replace q324 := eq_true q324)))
                                  (try simp only [Act.put, List.setIfInBounds_toArray, List.set_cons_zero, List.set_cons_succ])
                                  go_cut [70] (fun v70 wc => ∃ (kq : Nat) (x70_32 : Bool), v70 = .bool x70_32 ∧ Aside0 (compasslaw04_WalkNear.j2 kq a1 t313 x7_2 (rd t313 ((rd_T41 l0_1 x45_2).f0)) (rd t313 ((rd_T41 l0_1 x45_2).f1)) l0_1 (l0_1.length : Int) x45_2 x70_32 ((rd_T41 l0_1 x45_2).f0) ((rd_T41 l0_1 x45_2).f1) ((rd_T41 l0_1 x45_2).f2) ((rd_T41 l0_1 x45_2).f3) = some r) ∧ Aside0 (kq ≤ k2) ∧ Aside0 (Kd.R (Kd.int .i64) 3 wc w.heap.size (fun _ => True) (.slice (some ad323) t313.length co37) t313) ∧ Aside0 (Kd.R Kd.bool 4 wc w.heap.size (fun _ => True) v319 x7_2) ∧ Aside0 (wc.heap[gb311]? = some (.cells #[.int .i64 a0_0, (.slice (some ad321) l0_1.length c0_1)] 24 (0, 0))) ∧ Aside0 (wc.heap[gb322]? = some (.cells #[.int .i64 ((rd_T41 l0_1 x45_2).f0), .int .i64 ((rd_T41 l0_1 x45_2).f1), .int .i64 ((rd_T41 l0_1 x45_2).f2), .int .i64 ((rd_T41 l0_1 x45_2).f3)] 41 (0, 0))) ∧ Aside0 (Below w.heap.size w wc))
                                  case first =>
                                    have H := HC33.out
                                    clear HC33
                                    by_cases c38 : (rd t313 ((rd_T41 l0_1 x45_2).f0)) ≥ 0
                                    · rw [if_pos c38] at H
                                      have c38b0 : decide (0 ≤ (rd t313 ((rd_T41 l0_1 x45_2).f0))) = true := decide_eq_true c38
                                      clear c38
                                      (first | rw [c38b0] | (simp only [i64_w, i32_w]; rw [c38b0]) | skip)
                                      by_cases c39 : (rd t313 ((rd_T41 l0_1 x45_2).f1)) < 0
                                      · rw [if_pos c39] at H
                                        have c39b0 : decide ((rd t313 ((rd_T41 l0_1 x45_2).f1)) < 0) = true := decide_eq_true c39
                                        clear c39
                                        have H' := Aside0.mk H
                                        clear H
                                        go_wp2
                                        repeat (go_quiet (fail); try go_wp2)
                                        go_meet
                                        case rel => exact ⟨_, (true), (by first | rfl | (simp; done) | (simp [*]; done)), H', ⟨by have := HJ6.out; have := HK2.out; first | omega | exact Nat.le_refl _⟩, ⟨by (with_reducible repeat (first | apply Kd.R_alloc | apply Kd.R_drewN | apply Kd.R_drew)); exact Kd.R_mono (Kd.R_far (p := ⟨gb322, 3, none⟩) (Kd.R_far (p := ⟨gb322, 2, none⟩) (Kd.R_far (p := ⟨gb322, 1, none⟩) (Kd.R_far (p := ⟨gb322, 0, none⟩) (Kd.R_types HO_5.out BK322.out (by decide)) (fun _ hk => hk.2) (.int .i64 ((rd_T41 l0_1 x45_2).f0))) (fun _ hk => hk.2) (.int .i64 ((rd_T41 l0_1 x45_2).f1))) (fun _ hk => hk.2) (.int .i64 ((rd_T41 l0_1 x45_2).f2))) (fun _ hk => hk.2) (.int .i64 ((rd_T41 l0_1 x45_2).f3))) (fun _ hk => trivial)⟩, ⟨by (with_reducible repeat (first | apply Kd.R_alloc | apply Kd.R_drewN | apply Kd.R_drew)); exact Kd.R_mono (Kd.R_far (p := ⟨gb322, 3, none⟩) (Kd.R_far (p := ⟨gb322, 2, none⟩) (Kd.R_far (p := ⟨gb322, 1, none⟩) (Kd.R_far (p := ⟨gb322, 0, none⟩) (Kd.R_types HO_7.out BK322.out (by decide)) (fun _ hk => hk.2) (.int .i64 ((rd_T41 l0_1 x45_2).f0))) (fun _ hk => hk.2) (.int .i64 ((rd_T41 l0_1 x45_2).f1))) (fun _ hk => hk.2) (.int .i64 ((rd_T41 l0_1 x45_2).f2))) (fun _ hk => hk.2) (.int .i64 ((rd_T41 l0_1 x45_2).f3))) (fun _ hk => trivial)⟩, ⟨by (with_reducible repeat (first | refine blk_drewN ?_ _ | refine blk_drew ?_ | refine blk_alloc ?_ _)); refine blk_far ?_ NB311_322.out _; (with_reducible repeat (first | refine blk_drewN ?_ _ | refine blk_drew ?_ | refine blk_alloc ?_ _)); refine blk_far ?_ NB311_322.out _; (with_reducible repeat (first | refine blk_drewN ?_ _ | refine blk_drew ?_ | refine blk_alloc ?_ _)); refine blk_far ?_ NB311_322.out _; (with_reducible repeat (first | refine blk_drewN ?_ _ | refine blk_drew ?_ | refine blk_alloc ?_ _)); refine blk_far ?_ NB311_322.out _; (with_reducible repeat (first | refine blk_drewN ?_ _ | refine blk_drew ?_ | refine blk_alloc ?_ _)); exact BK311.out⟩, ⟨by (with_reducible repeat (first | refine blk_drewN ?_ _ | refine blk_drew ?_ | refine blk_alloc ?_ _)); refine blk_put (cs := #[.int .i64 ((rd_T41 l0_1 x45_2).f0), .int .i64 ((rd_T41 l0_1 x45_2).f1), .int .i64 ((rd_T41 l0_1 x45_2).f2), .int .i64 0]) ?_ 3 _ rfl; (with_reducible repeat (first | refine blk_drewN ?_ _ | refine blk_drew ?_ | refine blk_alloc ?_ _)); refine blk_put (cs := #[.int .i64 ((rd_T41 l0_1 x45_2).f0), .int .i64 ((rd_T41 l0_1 x45_2).f1), .int .i64 0, .int .i64 0]) ?_ 2 _ rfl; (with_reducible repeat (first | refine blk_drewN ?_ _ | refine blk_drew ?_ | refine blk_alloc ?_ _)); refine blk_put (cs := #[.int .i64 ((rd_T41 l0_1 x45_2).f0), .int .i64 0, .int .i64 0, .int .i64 0]) ?_ 1 _ rfl; (with_reducible repeat (first | refine blk_drewN ?_ _ | refine blk_drew ?_ | refine blk_alloc ?_ _)); refine blk_put (cs := #[.int .i64 0, .int .i64 0, .int .i64 0, .int .i64 0]) ?_ 0 _ rfl; (with_reducible repeat (first | refine blk_drewN ?_ _ | refine blk_drew ?_ | refine blk_alloc ?_ _)); exact BK322.out⟩, ⟨by repeat (first | (with_reducible first | exact HB.out | apply below_alloc | apply pw_below_drewN | apply below_drew1 | refine below_set ?_ GE311.out | refine below_set ?_ GE322.out) | exact HB.out)⟩⟩
                                      · rw [if_neg c39] at H
                                        have c39b0 : decide ((rd t313 ((rd_T41 l0_1 x45_2).f1)) < 0) = false := decide_eq_false c39
                                        clear c39
                                        have H' := Aside0.mk H
                                        clear H
                                        go_wp2
                                        repeat (go_quiet (fail); try go_wp2)
                                        go_meet
                                        case rel => exact ⟨_, (decide ((rd t313 ((rd_T41 l0_1 x45_2).f1)) > (wrap64 ((rd t313 ((rd_T41 l0_1 x45_2).f0)) + 1)))), (by first | rfl | (simp; done) | (simp [*]; done)), H', ⟨by have := HJ6.out; have := HK2.out; first | omega | exact Nat.le_refl _⟩, ⟨by (with_reducible repeat (first | apply Kd.R_alloc | apply Kd.R_drewN | apply Kd.R_drew)); exact Kd.R_mono (Kd.R_far (p := ⟨gb322, 3, none⟩) (Kd.R_far (p := ⟨gb322, 2, none⟩) (Kd.R_far (p := ⟨gb322, 1, none⟩) (Kd.R_far (p := ⟨gb322, 0, none⟩) (Kd.R_types HO_5.out BK322.out (by decide)) (fun _ hk => hk.2) (.int .i64 ((rd_T41 l0_1 x45_2).f0))) (fun _ hk => hk.2) (.int .i64 ((rd_T41 l0_1 x45_2).f1))) (fun _ hk => hk.2) (.int .i64 ((rd_T41 l0_1 x45_2).f2))) (fun _ hk => hk.2) (.int .i64 ((rd_T41 l0_1 x45_2).f3))) (fun _ hk => trivial)⟩, ⟨by (with_reducible repeat (first | apply Kd.R_alloc | apply Kd.R_drewN | apply Kd.R_drew)); exact Kd.R_mono (Kd.R_far (p := ⟨gb322, 3, none⟩) (Kd.R_far (p := ⟨gb322, 2, none⟩) (Kd.R_far (p := ⟨gb322, 1, none⟩) (Kd.R_far (p := ⟨gb322, 0, none⟩) (Kd.R_types HO_7.out BK322.out (by decide)) (fun _ hk => hk.2) (.int .i64 ((rd_T41 l0_1 x45_2).f0))) (fun _ hk => hk.2) (.int .i64 ((rd_T41 l0_1 x45_2).f1))) (fun _ hk => hk.2) (.int .i64 ((rd_T41 l0_1 x45_2).f2))) (fun _ hk => hk.2) (.int .i64 ((rd_T41 l0_1 x45_2).f3))) (fun _ hk => trivial)⟩, ⟨by (with_reducible repeat (first | refine blk_drewN ?_ _ | refine blk_drew ?_ | refine blk_alloc ?_ _)); refine blk_far ?_ NB311_322.out _; (with_reducible repeat (first | refine blk_drewN ?_ _ | refine blk_drew ?_ | refine blk_alloc ?_ _)); refine blk_far ?_ NB311_322.out _; (with_reducible repeat (first | refine blk_drewN ?_ _ | refine blk_drew ?_ | refine blk_alloc ?_ _)); refine blk_far ?_ NB311_322.out _; (with_reducible repeat (first | refine blk_drewN ?_ _ | refine blk_drew ?_ | refine blk_alloc ?_ _)); refine blk_far ?_ NB311_322.out _; (with_reducible repeat (first | refine blk_drewN ?_ _ | refine blk_drew ?_ | refine blk_alloc ?_ _)); exact BK311.out⟩, ⟨by (with_reducible repeat (first | refine blk_drewN ?_ _ | refine blk_drew ?_ | refine blk_alloc ?_ _)); refine blk_put (cs := #[.int .i64 ((rd_T41 l0_1 x45_2).f0), .int .i64 ((rd_T41 l0_1 x45_2).f1), .int .i64 ((rd_T41 l0_1 x45_2).f2), .int .i64 0]) ?_ 3 _ rfl; (with_reducible repeat (first | refine blk_drewN ?_ _ | refine blk_drew ?_ | refine blk_alloc ?_ _)); refine blk_put (cs := #[.int .i64 ((rd_T41 l0_1 x45_2).f0), .int .i64 ((rd_T41 l0_1 x45_2).f1), .int .i64 0, .int .i64 0]) ?_ 2 _ rfl; (with_reducible repeat (first | refine blk_drewN ?_ _ | refine blk_drew ?_ | refine blk_alloc ?_ _)); refine blk_put (cs := #[.int .i64 ((rd_T41 l0_1 x45_2).f0), .int .i64 0, .int .i64 0, .int .i64 0]) ?_ 1 _ rfl; (with_reducible repeat (first | refine blk_drewN ?_ _ | refine blk_drew ?_ | refine blk_alloc ?_ _)); refine blk_put (cs := #[.int .i64 0, .int .i64 0, .int .i64 0, .int .i64 0]) ?_ 0 _ rfl; (with_reducible repeat (first | refine blk_drewN ?_ _ | refine blk_drew ?_ | refine blk_alloc ?_ _)); exact BK322.out⟩, ⟨by repeat (first | (with_reducible first | exact HB.out | apply below_alloc | apply pw_below_drewN | apply below_drew1 | refine below_set ?_ GE311.out | refine below_set ?_ GE322.out) | exact HB.out)⟩⟩
                                    · rw [if_neg c38] at H
                                      have c38b0 : decide (0 ≤ (rd t313 ((rd_T41 l0_1 x45_2).f0))) = false := decide_eq_false c38
                                      clear c38
                                      (first | rw [c38b0] | (simp only [i64_w, i32_w]; rw [c38b0]) | skip)
                                      have H' := Aside0.mk H
                                      clear H
                                      go_wp2
                                      repeat (go_quiet (fail); try go_wp2)
                                      go_meet
                                      case rel => exact ⟨_, (false), (by first | rfl | (simp; done) | (simp [*]; done)), H', ⟨by have := HJ6.out; have := HK2.out; first | omega | exact Nat.le_refl _⟩, ⟨by (with_reducible repeat (first | apply Kd.R_alloc | apply Kd.R_drewN | apply Kd.R_drew)); exact Kd.R_mono (Kd.R_far (p := ⟨gb322, 3, none⟩) (Kd.R_far (p := ⟨gb322, 2, none⟩) (Kd.R_far (p := ⟨gb322, 1, none⟩) (Kd.R_far (p := ⟨gb322, 0, none⟩) (Kd.R_types HO_5.out BK322.out (by decide)) (fun _ hk => hk.2) (.int .i64 ((rd_T41 l0_1 x45_2).f0))) (fun _ hk => hk.2) (.int .i64 ((rd_T41 l0_1 x45_2).f1))) (fun _ hk => hk.2) (.int .i64 ((rd_T41 l0_1 x45_2).f2))) (fun _ hk => hk.2) (.int .i64 ((rd_T41 l0_1 x45_2).f3))) (fun _ hk => trivial)⟩, ⟨by (with_reducible repeat (first | apply Kd.R_alloc | apply Kd.R_drewN | apply Kd.R_drew)); exact Kd.R_mono (Kd.R_far (p := ⟨gb322, 3, none⟩) (Kd.R_far (p := ⟨gb322, 2, none⟩) (Kd.R_far (p := ⟨gb322, 1, none⟩) (Kd.R_far (p := ⟨gb322, 0, none⟩) (Kd.R_types HO_7.out BK322.out (by decide)) (fun _ hk => hk.2) (.int .i64 ((rd_T41 l0_1 x45_2).f0))) (fun _ hk => hk.2) (.int .i64 ((rd_T41 l0_1 x45_2).f1))) (fun _ hk => hk.2) (.int .i64 ((rd_T41 l0_1 x45_2).f2))) (fun _ hk => hk.2) (.int .i64 ((rd_T41 l0_1 x45_2).f3))) (fun _ hk => trivial)⟩, ⟨by (with_reducible repeat (first | refine blk_drewN ?_ _ | refine blk_drew ?_ | refine blk_alloc ?_ _)); refine blk_far ?_ NB311_322.out _; (with_reducible repeat (first | refine blk_drewN ?_ _ | refine blk_drew ?_ | refine blk_alloc ?_ _)); refine blk_far ?_ NB311_322.out _; (with_reducible repeat (first | refine blk_drewN ?_ _ | refine blk_drew ?_ | refine blk_alloc ?_ _)); refine blk_far ?_ NB311_322.out _; (with_reducible repeat (first | refine blk_drewN ?_ _ | refine blk_drew ?_ | refine blk_alloc ?_ _)); refine blk_far ?_ NB311_322.out _; (with_reducible repeat (first | refine blk_drewN ?_ _ | refine blk_drew ?_ | refine blk_alloc ?_ _)); exact BK311.out⟩, ⟨by (with_reducible repeat (first | refine blk_drewN ?_ _ | refine blk_drew ?_ | refine blk_alloc ?_ _)); refine blk_put (cs := #[.int .i64 ((rd_T41 l0_1 x45_2).f0), .int .i64 ((rd_T41 l0_1 x45_2).f1), .int .i64 ((rd_T41 l0_1 x45_2).f2), .int .i64 0]) ?_ 3 _ rfl; (with_reducible repeat (first | refine blk_drewN ?_ _ | refine blk_drew ?_ | refine blk_alloc ?_ _)); refine blk_put (cs := #[.int .i64 ((rd_T41 l0_1 x45_2).f0), .int .i64 ((rd_T41 l0_1 x45_2).f1), .int .i64 0, .int .i64 0]) ?_ 2 _ rfl; (with_reducible repeat (first | refine blk_drewN ?_ _ | refine blk_drew ?_ | refine blk_alloc ?_ _)); refine blk_put (cs := #[.int .i64 ((rd_T41 l0_1 x45_2).f0), .int .i64 0, .int .i64 0, .int .i64 0]) ?_ 1 _ rfl; (with_reducible repeat (first | refine blk_drewN ?_ _ | refine blk_drew ?_ | refine blk_alloc ?_ _)); refine blk_put (cs := #[.int .i64 0, .int .i64 0, .int .i64 0, .int .i64 0]) ?_ 0 _ rfl; (with_reducible repeat (first | refine blk_drewN ?_ _ | refine blk_drew ?_ | refine blk_alloc ?_ _)); exact BK322.out⟩, ⟨by repeat (first | (with_reducible first | exact HB.out | apply below_alloc | apply pw_below_drewN | apply below_drew1 | refine below_set ?_ GE311.out | refine below_set ?_ GE322.out) | exact HB.out)⟩⟩
                                  case rest =>
                                    clear HC33
                                    try clear c1
                                    try clear c2
                                    try clear p2
                                    try clear c3
                                    try clear p3
                                    try clear q3
                                    try clear hx3
                                    try clear c4
                                    try clear c5
                                    try clear c6
                                    try clear c6b0
                                    try clear c6b1
                                    try clear p6
                                    try clear c12
                                    try clear c12b0
                                    try clear c12b1
                                    try clear c13
                                    try clear c13b0
                                    try clear c14
                                    try clear c14b0
                                    try clear c19
                                    try clear c20
                                    try clear c20b0
                                    try clear c20b1
                                    try clear c21
                                    try clear c21b0
                                    try clear c21b1
                                    try clear c26
                                    try clear c26b0
                                    try clear c27
                                    try clear c27b0
                                    try clear c28
                                    try clear c28b0
                                    try clear c29
                                    try clear c29b0
                                    try clear c30
                                    try clear c30b0
                                    try clear c31
                                    try clear c31b0
                                    try clear p31
                                    try clear q31
                                    try clear hx31
                                    try clear c32
                                    try clear c32b0
                                    try clear p32
                                    try clear q32
                                    try clear hx32
                                    try clear c35
                                    try clear c38
                                    try clear c38b0
                                    try clear c39
                                    try clear c39b0
                                    try clear hcz10_0
                                    try clear hcz10_1
                                    try clear hcz16_0
                                    try clear hcz16_1
                                    try clear hcz18_0
                                    try clear hcz18_1
                                    try clear hcz22_0
                                    try clear hcz22_1
                                    try clear hcz25_0
                                    try clear hcz25_1
                                    try clear hcz36_0
                                    try clear hcz36_1
                                    try clear hcz36_2
                                    try clear hcz36_3
                                    try clear hfz10_0
                                    try clear hfz10_1
                                    try clear hfz16_0
                                    try clear hfz16_1
                                    try clear hfz18_0
                                    try clear hfz18_1
                                    try clear hfz22_0
                                    try clear hfz22_1
                                    try clear hfz25_0
                                    try clear hfz25_1
                                    try clear hfz36_0
                                    try clear hfz36_1
                                    try clear hfz36_2
                                    try clear hfz36_3
                                    try clear hx317_0
                                    try clear hx321_0
                                    try clear hx321_1
                                    try clear hx321_2
                                    try clear hx321_3
                                    try clear hx323_0
                                    try clear hx324_0
                                    try clear p2
                                    try clear p3
                                    try clear p317
                                    try clear p321
                                    try clear p323
                                    try clear p324
                                    try clear q3
                                    try clear q317
                                    try clear q321
                                    try clear q323
                                    try clear q324
                                    obtain ⟨kq, x70_32, rfl, HA, HJ32, HO_5, HO_7, BK311, BK322, HB⟩ := hcut
                                    cases kq with
                                    | zero => exact absurd HA.out (by simp [compasslaw04_WalkNear.j2])
                                    | succ kj32 =>
                                      have H := HA.out
                                      clear HA
                                      simp only [compasslaw04_WalkNear.j2] at H
                                      by_cases c40 : x70_32 = true
                                      · subst c40
                                        have H1 : (some false) = some r := by rw [if_pos rfl] at H; exact H
                                        clear H
                                        have H := H1
                                        clear H1
                                        exact absurd ((Option.some.inj H).trans HR_.out) (by decide)
                                      · replace c40 := Bool.eq_false_iff.mpr c40
                                        subst c40
                                        have H1 : (if (rd t313 ((rd_T41 l0_1 x45_2).f0)) ≥ 0 then (if (rd t313 ((rd_T41 l0_1 x45_2).f1)) = (wrap64 ((rd t313 ((rd_T41 l0_1 x45_2).f0)) + 1)) then (if 0 ≤ ((rd_T41 l0_1 x45_2).f1) then (if ((rd_T41 l0_1 x45_2).f1) < (x7_2.length : Int) then (compasslaw04_WalkNear.l0 kj32 a1 t313 (x7_2.set (((rd_T41 l0_1 x45_2).f1) : Int).toNat true) l0_1 (l0_1.length : Int) (wrap64 (x45_2 + 1))) else (none)) else (none)) else (compasslaw04_WalkNear.l0 kj32 a1 t313 x7_2 l0_1 (l0_1.length : Int) (wrap64 (x45_2 + 1)))) else (compasslaw04_WalkNear.l0 kj32 a1 t313 x7_2 l0_1 (l0_1.length : Int) (wrap64 (x45_2 + 1)))) = some r := by rw [if_neg (show ¬ (false = true) by decide)] at H; exact H
                                        clear H
                                        have H := H1
                                        clear H1
                                        by_cases c41 : (rd t313 ((rd_T41 l0_1 x45_2).f0)) ≥ 0
                                        · rw [if_pos c41] at H
                                          have c41b0 : decide (0 ≤ (rd t313 ((rd_T41 l0_1 x45_2).f0))) = true := decide_eq_true c41
                                          clear c41
                                          by_cases c42 : (rd t313 ((rd_T41 l0_1 x45_2).f1)) = (wrap64 ((rd t313 ((rd_T41 l0_1 x45_2).f0)) + 1))
                                          · rw [if_pos c42] at H
                                            have c42b0 : ((rd t313 ((rd_T41 l0_1 x45_2).f1)) == (wrap64 ((rd t313 ((rd_T41 l0_1 x45_2).f0)) + 1))) = true := beq_iff_eq.mpr c42
                                            have c42b1 : ((rd t313 ((rd_T41 l0_1 x45_2).f1)) != (wrap64 ((rd t313 ((rd_T41 l0_1 x45_2).f0)) + 1))) = false := bne_eq_false_iff_eq.mpr c42
                                            clear c42
                                            by_cases c43 : 0 ≤ ((rd_T41 l0_1 x45_2).f1)
                                            · rw [if_pos c43] at H
                                              have c43b0 : decide (0 ≤ ((rd_T41 l0_1 x45_2).f1)) = true := decide_eq_true c43
                                              clear c43
                                              by_cases c44 : ((rd_T41 l0_1 x45_2).f1) < (x7_2.length : Int)
                                              · rw [if_pos c44] at H
                                                have c44b0 : decide (((rd_T41 l0_1 x45_2).f1) < (x7_2.length : Int)) = true := decide_eq_true c44
                                                clear c44
                                                obtain ⟨y325, hy325⟩ : ∃ y_ : List Bool, y_ = (x7_2.set (((rd_T41 l0_1 x45_2).f1) : Int).toNat true) := ⟨_, rfl⟩
                                                replace H : (compasslaw04_WalkNear.l0 kj32 a1 t313 y325 l0_1 (l0_1.length : Int) (wrap64 (x45_2 + 1))) = some r := by first | (rw [hy325]; with_reducible exact H) | (have H2_ := (Option.bind_some _ _).symm.trans H; rw [hy325]; with_reducible exact H2_) | (have H2_ := (Option.bind_some _ _).symm.trans H; with_reducible exact H2_) | with_reducible exact H | (rw [hy325]; exact H) | exact H
                                                have Ny325 := Aside0.mk hy325
                                                clear hy325
                                                have H' := Aside0.mk H
                                                clear H
                                                have hnb46 := NB322_311.out
                                                have hnc46 := NB311_322.out
                                                have hcz47_0 : wc.cell? ⟨gb322, 0, none⟩ = some (.int .i64 ((rd_T41 l0_1 x45_2).f0)) := (blk_cell BK322.out 0).trans rfl
                                                have hcz47_1 : wc.cell? ⟨gb322, 1, none⟩ = some (.int .i64 ((rd_T41 l0_1 x45_2).f1)) := (blk_cell BK322.out 1).trans rfl
                                                have hcz47_2 : wc.cell? ⟨gb322, 2, none⟩ = some (.int .i64 ((rd_T41 l0_1 x45_2).f2)) := (blk_cell BK322.out 2).trans rfl
                                                have hcz47_3 : wc.cell? ⟨gb322, 3, none⟩ = some (.int .i64 ((rd_T41 l0_1 x45_2).f3)) := (blk_cell BK322.out 3).trans rfl
                                                have hfz47_0 := blk_frozen BK322.out 0
                                                have hfz47_1 := blk_frozen BK322.out 1
                                                have hfz47_2 := blk_frozen BK322.out 2
                                                have hfz47_3 := blk_frozen BK322.out 3
                                                have p45 : 0 ≤ (((rd_T41 l0_1 x45_2).f1) : Int) := of_decide_eq_true (by first | (with_reducible assumption) | assumption)
                                                have q45 : (((rd_T41 l0_1 x45_2).f1) : Int) < ((x7_2.length : Int) : Int) := of_decide_eq_true (by first | (with_reducible assumption) | assumption)
                                                obtain ⟨go45, co45, eo45, gb45, gl45, cl45, HG45⟩ := Kd.R_form HO_7.out (by omega)
                                                (first | cases eo45 | (injection eo45 with ea_ en_ ec_; (first | subst ea_ | (injection ea_ with ea_; subst ea_)); subst ec_; clear en_))
                                                have GB45 := Aside0.mk gb45
                                                have GG45 := Aside0.mk HG45
                                                clear gb45 gl45 HG45
                                                obtain ⟨hx45_0, hf45_0⟩ := Kd.R_celln false HO_7.out (((rd_T41 l0_1 x45_2).f1) : Int) p45 q45
                                                replace p45 := eq_true p45
                                                replace q45 := eq_true q45
                                                have HP48 := Kd.R_putg HO_7.out (((rd_T41 l0_1 x45_2).f1) : Int) true
                                                go_wp2_with (first | ((with_reducible refine gate_store (t := 4) (p := 82) rfl ?_); (try (rw [drewN_self wc]; generalize hq_ : World.drewN wc _ = wc; have n0_ := Aside0.mk (Kd.R_at hq_ HO_5.out); have n1_ := Aside0.mk (Kd.R_at hq_ HO_7.out); have n2_ := Aside0.mk (blk_at hq_ BK311.out); have n3_ := Aside0.mk (blk_at hq_ BK322.out); have n4_ := Aside0.mk (below_at hq_ HB.out); clear hq_ HO_5 HO_7 BK311 BK322 HB; have HO_5 := n0_; have HO_7 := n1_; have BK311 := n2_; have BK322 := n3_; have HB := n4_; clear n0_ n1_ n2_ n3_ n4_; (try (have HP48 := Kd.R_putg HO_7.out (((rd_T41 l0_1 x45_2).f1) : Int) true)))); refine store_event (t := 4) (p := 82) (v := ?vo_w49) (w1 := (wc.setCell ⟨go45, (((rd_T41 l0_1 x45_2).f1) : Int).toNat, none⟩ (.bool true))) ?hg ?ho ?hn ?hr ?_; (case ho => rfl); (case hg => rfl); (case hn => rfl); (case hr => first | (go_simp; done) | (go_simp; rfl)); intro w49 hw; have hg : wc.grownBy w49 (some go45) := (by rw [hw]; exact HP48.2); have hp_ : Kd.R Kd.bool 4 w49 w.heap.size (fun _ => True) (.slice (some ⟨go45, 0, none⟩) x7_2.length co45) y325 := (by rw [hw, Ny325.out]; exact HP48.1); clear HP48; have n0_ := Aside0.mk (Kd.R_over' (v := (.slice (some ⟨go45, 0, none⟩) x7_2.length co45)) (by (with_reducible repeat (first | apply Kd.R_alloc | apply Kd.R_drewN | apply Kd.R_drew)); exact HO_5.out) (Kd.R_typed HO_7.out) (by decide) hg); have n1_ := Aside0.mk (hp_); have n2_ := Aside0.mk (blk_grown (g := gb311) (o := .cells #[.int .i64 a0_0, .slice (some ad321) l0_1.length c0_1] 24 (0, 0)) (by (with_reducible repeat (first | refine blk_drewN ?_ _ | refine blk_drew ?_ | refine blk_alloc ?_ _)); exact BK311.out) hg (Kd.R_ne HO_7.out BK311.out (by decide))); have n3_ := Aside0.mk (blk_grown (g := gb322) (o := .cells #[.int .i64 ((rd_T41 l0_1 x45_2).f0), .int .i64 ((rd_T41 l0_1 x45_2).f1), .int .i64 ((rd_T41 l0_1 x45_2).f2), .int .i64 ((rd_T41 l0_1 x45_2).f3)] 41 (0, 0)) (by (with_reducible repeat (first | refine blk_drewN ?_ _ | refine blk_drew ?_ | refine blk_alloc ?_ _)); exact BK322.out) hg (Kd.R_ne HO_7.out BK322.out (by decide))); have n4_ := Aside0.mk ((by rw [hw]; exact below_set (HB.out) GB45.out : Below w.heap.size w w49)); clear HO_5; clear HO_7; clear BK311; clear BK322; clear HB; have HO_5 := n0_; have HO_7 := n1_; have BK311 := n2_; have BK322 := n3_; have HB := n4_; clear n0_ n1_ n2_ n3_ n4_; clear hg hw hp_))
                                                repeat (go_quiet (first | ((with_reducible refine gate_store (t := 4) (p := 82) rfl ?_); (try (rw [drewN_self wc]; generalize hq_ : World.drewN wc _ = wc; have n0_ := Aside0.mk (Kd.R_at hq_ HO_5.out); have n1_ := Aside0.mk (Kd.R_at hq_ HO_7.out); have n2_ := Aside0.mk (blk_at hq_ BK311.out); have n3_ := Aside0.mk (blk_at hq_ BK322.out); have n4_ := Aside0.mk (below_at hq_ HB.out); clear hq_ HO_5 HO_7 BK311 BK322 HB; have HO_5 := n0_; have HO_7 := n1_; have BK311 := n2_; have BK322 := n3_; have HB := n4_; clear n0_ n1_ n2_ n3_ n4_; (try (have HP48 := Kd.R_putg HO_7.out (((rd_T41 l0_1 x45_2).f1) : Int) true)))); refine store_event (t := 4) (p := 82) (v := ?vo_w49) (w1 := (wc.setCell ⟨go45, (((rd_T41 l0_1 x45_2).f1) : Int).toNat, none⟩ (.bool true))) ?hg ?ho ?hn ?hr ?_; (case ho => rfl); (case hg => rfl); (case hn => rfl); (case hr => first | (go_simp; done) | (go_simp; rfl)); intro w49 hw; have hg : wc.grownBy w49 (some go45) := (by rw [hw]; exact HP48.2); have hp_ : Kd.R Kd.bool 4 w49 w.heap.size (fun _ => True) (.slice (some ⟨go45, 0, none⟩) x7_2.length co45) y325 := (by rw [hw, Ny325.out]; exact HP48.1); clear HP48; have n0_ := Aside0.mk (Kd.R_over' (v := (.slice (some ⟨go45, 0, none⟩) x7_2.length co45)) (by (with_reducible repeat (first | apply Kd.R_alloc | apply Kd.R_drewN | apply Kd.R_drew)); exact HO_5.out) (Kd.R_typed HO_7.out) (by decide) hg); have n1_ := Aside0.mk (hp_); have n2_ := Aside0.mk (blk_grown (g := gb311) (o := .cells #[.int .i64 a0_0, .slice (some ad321) l0_1.length c0_1] 24 (0, 0)) (by (with_reducible repeat (first | refine blk_drewN ?_ _ | refine blk_drew ?_ | refine blk_alloc ?_ _)); exact BK311.out) hg (Kd.R_ne HO_7.out BK311.out (by decide))); have n3_ := Aside0.mk (blk_grown (g := gb322) (o := .cells #[.int .i64 ((rd_T41 l0_1 x45_2).f0), .int .i64 ((rd_T41 l0_1 x45_2).f1), .int .i64 ((rd_T41 l0_1 x45_2).f2), .int .i64 ((rd_T41 l0_1 x45_2).f3)] 41 (0, 0)) (by (with_reducible repeat (first | refine blk_drewN ?_ _ | refine blk_drew ?_ | refine blk_alloc ?_ _)); exact BK322.out) hg (Kd.R_ne HO_7.out BK322.out (by decide))); have n4_ := Aside0.mk ((by rw [hw]; exact below_set (HB.out) GB45.out : Below w.heap.size w w49)); clear HO_5; clear HO_7; clear BK311; clear BK322; clear HB; have HO_5 := n0_; have HO_7 := n1_; have BK311 := n2_; have BK322 := n3_; have HB := n4_; clear n0_ n1_ n2_ n3_ n4_; clear hg hw hp_)); try go_wp2_with (first | ((with_reducible refine gate_store (t := 4) (p := 82) rfl ?_); (try (rw [drewN_self wc]; generalize hq_ : World.drewN wc _ = wc; have n0_ := Aside0.mk (Kd.R_at hq_ HO_5.out); have n1_ := Aside0.mk (Kd.R_at hq_ HO_7.out); have n2_ := Aside0.mk (blk_at hq_ BK311.out); have n3_ := Aside0.mk (blk_at hq_ BK322.out); have n4_ := Aside0.mk (below_at hq_ HB.out); clear hq_ HO_5 HO_7 BK311 BK322 HB; have HO_5 := n0_; have HO_7 := n1_; have BK311 := n2_; have BK322 := n3_; have HB := n4_; clear n0_ n1_ n2_ n3_ n4_; (try (have HP48 := Kd.R_putg HO_7.out (((rd_T41 l0_1 x45_2).f1) : Int) true)))); refine store_event (t := 4) (p := 82) (v := ?vo_w49) (w1 := (wc.setCell ⟨go45, (((rd_T41 l0_1 x45_2).f1) : Int).toNat, none⟩ (.bool true))) ?hg ?ho ?hn ?hr ?_; (case ho => rfl); (case hg => rfl); (case hn => rfl); (case hr => first | (go_simp; done) | (go_simp; rfl)); intro w49 hw; have hg : wc.grownBy w49 (some go45) := (by rw [hw]; exact HP48.2); have hp_ : Kd.R Kd.bool 4 w49 w.heap.size (fun _ => True) (.slice (some ⟨go45, 0, none⟩) x7_2.length co45) y325 := (by rw [hw, Ny325.out]; exact HP48.1); clear HP48; have n0_ := Aside0.mk (Kd.R_over' (v := (.slice (some ⟨go45, 0, none⟩) x7_2.length co45)) (by (with_reducible repeat (first | apply Kd.R_alloc | apply Kd.R_drewN | apply Kd.R_drew)); exact HO_5.out) (Kd.R_typed HO_7.out) (by decide) hg); have n1_ := Aside0.mk (hp_); have n2_ := Aside0.mk (blk_grown (g := gb311) (o := .cells #[.int .i64 a0_0, .slice (some ad321) l0_1.length c0_1] 24 (0, 0)) (by (with_reducible repeat (first | refine blk_drewN ?_ _ | refine blk_drew ?_ | refine blk_alloc ?_ _)); exact BK311.out) hg (Kd.R_ne HO_7.out BK311.out (by decide))); have n3_ := Aside0.mk (blk_grown (g := gb322) (o := .cells #[.int .i64 ((rd_T41 l0_1 x45_2).f0), .int .i64 ((rd_T41 l0_1 x45_2).f1), .int .i64 ((rd_T41 l0_1 x45_2).f2), .int .i64 ((rd_T41 l0_1 x45_2).f3)] 41 (0, 0)) (by (with_reducible repeat (first | refine blk_drewN ?_ _ | refine blk_drew ?_ | refine blk_alloc ?_ _)); exact BK322.out) hg (Kd.R_ne HO_7.out BK322.out (by decide))); have n4_ := Aside0.mk ((by rw [hw]; exact below_set (HB.out) GB45.out : Below w.heap.size w w49)); clear HO_5; clear HO_7; clear BK311; clear BK322; clear HB; have HO_5 := n0_; have HO_7 := n1_; have BK311 := n2_; have BK322 := n3_; have HB := n4_; clear n0_ n1_ n2_ n3_ n4_; clear hg hw hp_)))
                                                go_roundg kj32
                                                case measure => have := HJ6.out; have := HK2.out; have := HJ32.out; omega
                                                case rel => exact ⟨(y325), (wrap64 (x45_2 + 1)), (by first | rfl | (simp; done) | (simp [*]; done)), H', ⟨by have := HJ6.out; have := HK2.out; have := HJ32.out; omega⟩, ⟨by (with_reducible repeat (first | apply Kd.R_alloc | apply Kd.R_drewN | apply Kd.R_drew)); exact HO_5.out⟩, ⟨by (with_reducible repeat (first | apply Kd.R_alloc | apply Kd.R_drewN | apply Kd.R_drew)); exact HO_7.out⟩, ⟨by (with_reducible repeat (first | refine blk_drewN ?_ _ | refine blk_drew ?_ | refine blk_alloc ?_ _)); exact BK311.out⟩, ⟨by repeat (first | (with_reducible first | exact HB.out | apply below_alloc | apply pw_below_drewN | apply below_drew1 | refine below_set ?_ GE311.out | refine below_set ?_ GE322.out) | exact HB.out)⟩⟩
                                              · rw [if_neg c44] at H
                                                exact absurd H (by simp)
                                            · rw [if_neg c43] at H
                                              exact absurd H (by simp)
                                          · rw [if_neg c42] at H
                                            have c42b0 : ((rd t313 ((rd_T41 l0_1 x45_2).f1)) == (wrap64 ((rd t313 ((rd_T41 l0_1 x45_2).f0)) + 1))) = false := beq_eq_false_iff_ne.mpr c42
                                            have c42b1 : ((rd t313 ((rd_T41 l0_1 x45_2).f1)) != (wrap64 ((rd t313 ((rd_T41 l0_1 x45_2).f0)) + 1))) = true := bne_iff_ne.mpr c42
                                            have H' := Aside0.mk H
                                            clear H
                                            go_wp2
                                            repeat (go_quiet (fail); try go_wp2)
                                            go_roundg kj32
                                            case measure => have := HJ6.out; have := HK2.out; have := HJ32.out; omega
                                            case rel => exact ⟨(x7_2), (wrap64 (x45_2 + 1)), (by first | rfl | (simp; done) | (simp [*]; done)), H', ⟨by have := HJ6.out; have := HK2.out; have := HJ32.out; omega⟩, ⟨by (with_reducible repeat (first | apply Kd.R_alloc | apply Kd.R_drewN | apply Kd.R_drew)); exact HO_5.out⟩, ⟨by (with_reducible repeat (first | apply Kd.R_alloc | apply Kd.R_drewN | apply Kd.R_drew)); exact HO_7.out⟩, ⟨by (with_reducible repeat (first | refine blk_drewN ?_ _ | refine blk_drew ?_ | refine blk_alloc ?_ _)); exact BK311.out⟩, ⟨by repeat (first | (with_reducible first | exact HB.out | apply below_alloc | apply pw_below_drewN | apply below_drew1 | refine below_set ?_ GE311.out | refine below_set ?_ GE322.out) | exact HB.out)⟩⟩
                                        · rw [if_neg c41] at H
                                          have c41b0 : decide (0 ≤ (rd t313 ((rd_T41 l0_1 x45_2).f0))) = false := decide_eq_false c41
                                          clear c41
                                          have H' := Aside0.mk H
                                          clear H
                                          go_wp2
                                          repeat (go_quiet (fail); try go_wp2)
                                          go_roundg kj32
                                          case measure => have := HJ6.out; have := HK2.out; have := HJ32.out; omega
                                          case rel => exact ⟨(x7_2), (wrap64 (x45_2 + 1)), (by first | rfl | (simp; done) | (simp [*]; done)), H', ⟨by have := HJ6.out; have := HK2.out; have := HJ32.out; omega⟩, ⟨by (with_reducible repeat (first | apply Kd.R_alloc | apply Kd.R_drewN | apply Kd.R_drew)); exact HO_5.out⟩, ⟨by (with_reducible repeat (first | apply Kd.R_alloc | apply Kd.R_drewN | apply Kd.R_drew)); exact HO_7.out⟩, ⟨by (with_reducible repeat (first | refine blk_drewN ?_ _ | refine blk_drew ?_ | refine blk_alloc ?_ _)); exact BK311.out⟩, ⟨by repeat (first | (with_reducible first | exact HB.out | apply below_alloc | apply pw_below_drewN | apply below_drew1 | refine below_set ?_ GE311.out | refine below_set ?_ GE322.out) | exact HB.out)⟩⟩
                                · rw [if_neg c32] at H
                                  exact absurd H (by simp)
                              · rw [if_neg c31] at H
                                exact absurd H (by simp)
                            · rw [if_neg c30] at H
                              exact absurd H (by simp)
                          · rw [if_neg c29] at H
                            exact absurd H (by simp)
                        · rw [if_neg c28] at H
                          exact absurd H (by simp)
                      · rw [if_neg c27] at H
                        exact absurd H (by simp)
                    · rw [if_neg c26] at H
                      have c26b0 : decide (x45_2 < (l0_1.length : Int)) = false := decide_eq_false c26
                      clear c26
                      have H' := Aside0.mk H
                      clear H
                      obtain ⟨Ao50, co50, eo50⟩ := Kd.R_slice HO_5.out
                      subst eo50
                      go_wp2
                      repeat (go_quiet (fail); try go_wp2)
                      go_loopg [86] k2 (fun kq v86 w' => ∃ (x86_3 : Int), v86 = .int .i64 x86_3 ∧ Aside0 (compasslaw04_WalkNear.l1 kq a1 x7_2 t313 (t313.length : Int) x86_3 = some r) ∧ Aside0 (kq ≤ k2) ∧ Aside0 (Kd.R Kd.bool 4 w' w.heap.size (fun _ => True) v319 x7_2) ∧ Aside0 (Kd.R (Kd.int .i64) 3 w' w.heap.size (fun _ => True) (.slice Ao50 t313.length co50) t313) ∧ Aside0 (w'.heap[gb311]? = some (.cells #[.int .i64 a0_0, (.slice A0_1 l0_1.length c0_1)] 24 (0, 0))) ∧ Aside0 (Below w.heap.size w w'))
                      case atStart => exact ⟨(0), (by first | rfl | (simp; done) | (simp [*]; done)), H', ⟨Nat.le_refl _⟩, ⟨by (with_reducible repeat (first | apply Kd.R_alloc | apply Kd.R_drewN | apply Kd.R_drew)); exact HO_7.out⟩, ⟨by (with_reducible repeat (first | apply Kd.R_alloc | apply Kd.R_drewN | apply Kd.R_drew)); exact HO_5.out⟩, ⟨by (with_reducible repeat (first | refine blk_drewN ?_ _ | refine blk_drew ?_ | refine blk_alloc ?_ _)); exact BK311.out⟩, ⟨by repeat (first | (with_reducible first | exact HB.out | apply below_alloc | apply pw_below_drewN | apply below_drew1 | refine below_set ?_ GE311.out) | exact HB.out)⟩⟩
                      case round =>
                        clear H'
                        try clear c1
                        try clear c2
                        try clear p2
                        try clear c3
                        try clear p3
                        try clear q3
                        try clear hx3
                        try clear c4
                        try clear p4
                        try clear q4
                        try clear hx4
                        try clear hf4
                        try clear c5
                        try clear c6
                        try clear c6b0
                        try clear c6b1
                        try clear p6
                        try clear c12
                        try clear c12b0
                        try clear c12b1
                        try clear c13
                        try clear c13b0
                        try clear c14
                        try clear c14b0
                        try clear c19
                        try clear c20
                        try clear c20b0
                        try clear c20b1
                        try clear c21
                        try clear c21b0
                        try clear c21b1
                        try clear c26
                        try clear c26b0
                        try clear c27
                        try clear c27b0
                        try clear c28
                        try clear c28b0
                        try clear c29
                        try clear c29b0
                        try clear c30
                        try clear c30b0
                        try clear c31
                        try clear c31b0
                        try clear p31
                        try clear q31
                        try clear hx31
                        try clear c32
                        try clear c32b0
                        try clear p32
                        try clear q32
                        try clear hx32
                        try clear c35
                        try clear c38
                        try clear c38b0
                        try clear c39
                        try clear c39b0
                        try clear c40
                        try clear c41
                        try clear c41b0
                        try clear c42
                        try clear c42b0
                        try clear c42b1
                        try clear c43
                        try clear c43b0
                        try clear c44
                        try clear c44b0
                        try clear p45
                        try clear q45
                        try clear hx45
                        try clear hf45
                        try clear c46
                        try clear hcz10_0
                        try clear hcz10_1
                        try clear hcz16_0
                        try clear hcz16_1
                        try clear hcz18_0
                        try clear hcz18_1
                        try clear hcz22_0
                        try clear hcz22_1
                        try clear hcz25_0
                        try clear hcz25_1
                        try clear hcz36_0
                        try clear hcz36_1
                        try clear hcz36_2
                        try clear hcz36_3
                        try clear hcz47_0
                        try clear hcz47_1
                        try clear hcz47_2
                        try clear hcz47_3
                        try clear hfz10_0
                        try clear hfz10_1
                        try clear hfz16_0
                        try clear hfz16_1
                        try clear hfz18_0
                        try clear hfz18_1
                        try clear hfz22_0
                        try clear hfz22_1
                        try clear hfz25_0
                        try clear hfz25_1
                        try clear hfz36_0
                        try clear hfz36_1
                        try clear hfz36_2
                        try clear hfz36_3
                        try clear hfz47_0
                        try clear hfz47_1
                        try clear hfz47_2
                        try clear hfz47_3
                        try clear hx317_0
                        try clear hx321_0
                        try clear hx321_1
                        try clear hx321_2
                        try clear hx321_3
                        try clear hx323_0
                        try clear hx324_0
                        try clear hx45_0
                        try clear p2
                        try clear p3
                        try clear p31
                        try clear p317
                        try clear p32
                        try clear p321
                        try clear p323
                        try clear p324
                        try clear p45
                        try clear p6
                        try clear q3
                        try clear q31
                        try clear q317
                        try clear q32
                        try clear q321
                        try clear q323
                        try clear q324
                        try clear q45
                        obtain ⟨x86_3, rfl, HA, HK3, HO_7, HO_84, BK311, HB⟩ := hrel
                        cases gk with
                        | zero => exact absurd HA.out (by simp [compasslaw04_WalkNear.l1])
                        | succ k3 =>
                          have H := HA.out
                          clear HA
                          simp only [compasslaw04_WalkNear.l1] at H
                          by_cases c51 : x86_3 < (t313.length : Int)
                          · rw [if_pos c51] at H
                            have c51b0 : decide (x86_3 < (t313.length : Int)) = true := decide_eq_true c51
                            clear c51
                            by_cases c52 : 0 ≤ x86_3
                            · rw [if_pos c52] at H
                              have c52b0 : decide (0 ≤ x86_3) = true := decide_eq_true c52
                              clear c52
                              by_cases c53 : x86_3 < (t313.length : Int)
                              · rw [if_pos c53] at H
                                have c53b0 : decide (x86_3 < (t313.length : Int)) = true := decide_eq_true c53
                                clear c53
                                by_cases c54 : (rd t313 x86_3) < (-1)
                                · rw [if_pos c54] at H
                                  have c54b0 : decide ((rd t313 x86_3) < (-1)) = true := decide_eq_true c54
                                  clear c54
                                  exact absurd ((Option.some.inj H).trans HR_.out) (by decide)
                                · rw [if_neg c54] at H
                                  have c54b0 : decide ((rd t313 x86_3) < (-1)) = false := decide_eq_false c54
                                  clear c54
                                  by_cases c55 : (rd t313 x86_3) = 0
                                  · rw [if_pos c55] at H
                                    have c55b0 : ((rd t313 x86_3) == 0) = true := beq_iff_eq.mpr c55
                                    have c55b1 : ((rd t313 x86_3) != 0) = false := bne_eq_false_iff_eq.mpr c55
                                    clear c55
                                    by_cases c56 : x86_3 = a1
                                    · rw [if_pos c56] at H
                                      have c56b0 : (x86_3 == a1) = true := beq_iff_eq.mpr c56
                                      have c56b1 : (x86_3 != a1) = false := bne_eq_false_iff_eq.mpr c56
                                      clear c56
                                      by_cases c57 : (rd t313 x86_3) > 0
                                      · rw [if_pos c57] at H
                                        have c57b0 : decide (0 < (rd t313 x86_3)) = true := decide_eq_true c57
                                        clear c57
                                        by_cases c58 : x86_3 < (x7_2.length : Int)
                                        · rw [if_pos c58] at H
                                          have c58b0 : decide (x86_3 < (x7_2.length : Int)) = true := decide_eq_true c58
                                          clear c58
                                          obtain ⟨bq59, hbq59⟩ : ∃ b_ : Bool, b_ = (rdOf false x7_2 x86_3) := ⟨_, rfl⟩
                                          replace H : (if bq59 = true then (compasslaw04_WalkNear.l1 k3 a1 x7_2 t313 (t313.length : Int) (wrap64 (x86_3 + 1))) else (some false)) = some r := by rw [← hbq59] at H; exact H
                                          have Nbq59 := Aside0.mk hbq59
                                          clear hbq59
                                          by_cases c60 : bq59 = true
                                          · subst c60
                                            have H1 : (compasslaw04_WalkNear.l1 k3 a1 x7_2 t313 (t313.length : Int) (wrap64 (x86_3 + 1))) = some r := by rw [if_pos rfl] at H; exact H
                                            clear H
                                            have H := H1
                                            clear H1
                                            have H' := Aside0.mk H
                                            clear H
                                            have p326 : 0 ≤ (x86_3 : Int) := of_decide_eq_true (by first | (with_reducible assumption) | assumption)
                                            have q326 : x86_3 < (t313.length : Int) := of_decide_eq_true (by first | (with_reducible assumption) | assumption)
                                            obtain ⟨ad326, e326, hx326_0⟩ := Kd.at_int (Kd.R_reads' HO_84.out).2.2 x86_3 p326 q326
                                            cases e326
                                            replace p326 := eq_true p326
                                            replace q326 := eq_true q326
                                            obtain ⟨Ao61, co61, eo61⟩ := Kd.R_slice HO_7.out
                                            subst eo61
                                            have p327 : 0 ≤ (x86_3 : Int) := of_decide_eq_true (by first | (with_reducible assumption) | assumption)
                                            have q327 : x86_3 < (x7_2.length : Int) := of_decide_eq_true (by first | (with_reducible assumption) | assumption)
                                            obtain ⟨ad327, e327, hx327_0⟩ := Kd.at_bool (Kd.R_reads' HO_7.out).2.2 x86_3 p327 q327
                                            (try rw [← Nbq59.out] at hx327_0)
                                            cases e327
                                            replace p327 := eq_true p327
                                            replace q327 := eq_true q327
                                            go_wp2
                                            repeat (go_quiet (fail); try go_wp2)
                                            go_roundg k3
                                            case measure => have := HJ6.out; have := HK2.out; have := HK3.out; omega
                                            case rel => exact ⟨(wrap64 (x86_3 + 1)), (by first | rfl | (simp; done) | (simp [*]; done)), H', ⟨by have := HJ6.out; have := HK2.out; have := HK3.out; omega⟩, ⟨by (with_reducible repeat (first | apply Kd.R_alloc | apply Kd.R_drewN | apply Kd.R_drew)); exact HO_7.out⟩, ⟨by (with_reducible repeat (first | apply Kd.R_alloc | apply Kd.R_drewN | apply Kd.R_drew)); exact HO_84.out⟩, ⟨by (with_reducible repeat (first | refine blk_drewN ?_ _ | refine blk_drew ?_ | refine blk_alloc ?_ _)); exact BK311.out⟩, ⟨by repeat (first | (with_reducible first | exact HB.out | apply below_alloc | apply pw_below_drewN | apply below_drew1 | refine below_set ?_ GE311.out) | exact HB.out)⟩⟩
                                          · replace c60 := Bool.eq_false_iff.mpr c60
                                            subst c60
                                            have H1 : (some false) = some r := by rw [if_neg (show ¬ (false = true) by decide)] at H; exact H
                                            clear H
                                            have H := H1
                                            clear H1
                                            exact absurd ((Option.some.inj H).trans HR_.out) (by decide)
                                        · rw [if_neg c58] at H
                                          exact absurd H (by simp)
                                      · rw [if_neg c57] at H
                                        have c57b0 : decide (0 < (rd t313 x86_3)) = false := decide_eq_false c57
                                        clear c57
                                        have H' := Aside0.mk H
                                        clear H
                                        have p326 : 0 ≤ (x86_3 : Int) := of_decide_eq_true (by first | (with_reducible assumption) | assumption)
                                        have q326 : x86_3 < (t313.length : Int) := of_decide_eq_true (by first | (with_reducible assumption) | assumption)
                                        obtain ⟨ad326, e326, hx326_0⟩ := Kd.at_int (Kd.R_reads' HO_84.out).2.2 x86_3 p326 q326
                                        cases e326
                                        replace p326 := eq_true p326
                                        replace q326 := eq_true q326
                                        go_wp2
                                        repeat (go_quiet (fail); try go_wp2)
                                        go_roundg k3
                                        case measure => have := HJ6.out; have := HK2.out; have := HK3.out; omega
                                        case rel => exact ⟨(wrap64 (x86_3 + 1)), (by first | rfl | (simp; done) | (simp [*]; done)), H', ⟨by have := HJ6.out; have := HK2.out; have := HK3.out; omega⟩, ⟨by (with_reducible repeat (first | apply Kd.R_alloc | apply Kd.R_drewN | apply Kd.R_drew)); exact HO_7.out⟩, ⟨by (with_reducible repeat (first | apply Kd.R_alloc | apply Kd.R_drewN | apply Kd.R_drew)); exact HO_84.out⟩, ⟨by (with_reducible repeat (first | refine blk_drewN ?_ _ | refine blk_drew ?_ | refine blk_alloc ?_ _)); exact BK311.out⟩, ⟨by repeat (first | (with_reducible first | exact HB.out | apply below_alloc | apply pw_below_drewN | apply below_drew1 | refine below_set ?_ GE311.out) | exact HB.out)⟩⟩
                                    · rw [if_neg c56] at H
                                      have c56b0 : (x86_3 == a1) = false := beq_eq_false_iff_ne.mpr c56
                                      have c56b1 : (x86_3 != a1) = true := bne_iff_ne.mpr c56
                                      exact absurd ((Option.some.inj H).trans HR_.out) (by decide)
                                  · rw [if_neg c55] at H
                                    have c55b0 : ((rd t313 x86_3) == 0) = false := beq_eq_false_iff_ne.mpr c55
                                    have c55b1 : ((rd t313 x86_3) != 0) = true := bne_iff_ne.mpr c55
                                    by_cases c62 : (rd t313 x86_3) > 0
                                    · rw [if_pos c62] at H
                                      have c62b0 : decide (0 < (rd t313 x86_3)) = true := decide_eq_true c62
                                      clear c62
                                      by_cases c63 : x86_3 < (x7_2.length : Int)
                                      · rw [if_pos c63] at H
                                        have c63b0 : decide (x86_3 < (x7_2.length : Int)) = true := decide_eq_true c63
                                        clear c63
                                        obtain ⟨bq64, hbq64⟩ : ∃ b_ : Bool, b_ = (rdOf false x7_2 x86_3) := ⟨_, rfl⟩
                                        replace H : (if bq64 = true then (compasslaw04_WalkNear.l1 k3 a1 x7_2 t313 (t313.length : Int) (wrap64 (x86_3 + 1))) else (some false)) = some r := by rw [← hbq64] at H; exact H
                                        have Nbq64 := Aside0.mk hbq64
                                        clear hbq64
                                        by_cases c65 : bq64 = true
                                        · subst c65
                                          have H1 : (compasslaw04_WalkNear.l1 k3 a1 x7_2 t313 (t313.length : Int) (wrap64 (x86_3 + 1))) = some r := by rw [if_pos rfl] at H; exact H
                                          clear H
                                          have H := H1
                                          clear H1
                                          have H' := Aside0.mk H
                                          clear H
                                          have p326 : 0 ≤ (x86_3 : Int) := of_decide_eq_true (by first | (with_reducible assumption) | assumption)
                                          have q326 : x86_3 < (t313.length : Int) := of_decide_eq_true (by first | (with_reducible assumption) | assumption)
                                          obtain ⟨ad326, e326, hx326_0⟩ := Kd.at_int (Kd.R_reads' HO_84.out).2.2 x86_3 p326 q326
                                          cases e326
                                          replace p326 := eq_true p326
                                          replace q326 := eq_true q326
                                          obtain ⟨Ao66, co66, eo66⟩ := Kd.R_slice HO_7.out
                                          subst eo66
                                          have p328 : 0 ≤ (x86_3 : Int) := of_decide_eq_true (by first | (with_reducible assumption) | assumption)
                                          have q328 : x86_3 < (x7_2.length : Int) := of_decide_eq_true (by first | (with_reducible assumption) | assumption)
                                          obtain ⟨ad328, e328, hx328_0⟩ := Kd.at_bool (Kd.R_reads' HO_7.out).2.2 x86_3 p328 q328
                                          (try rw [← Nbq64.out] at hx328_0)
                                          cases e328
                                          replace p328 := eq_true p328
                                          replace q328 := eq_true q328
                                          go_wp2
                                          repeat (go_quiet (fail); try go_wp2)
                                          go_roundg k3
                                          case measure => have := HJ6.out; have := HK2.out; have := HK3.out; omega
                                          case rel => exact ⟨(wrap64 (x86_3 + 1)), (by first | rfl | (simp; done) | (simp [*]; done)), H', ⟨by have := HJ6.out; have := HK2.out; have := HK3.out; omega⟩, ⟨by (with_reducible repeat (first | apply Kd.R_alloc | apply Kd.R_drewN | apply Kd.R_drew)); exact HO_7.out⟩, ⟨by (with_reducible repeat (first | apply Kd.R_alloc | apply Kd.R_drewN | apply Kd.R_drew)); exact HO_84.out⟩, ⟨by (with_reducible repeat (first | refine blk_drewN ?_ _ | refine blk_drew ?_ | refine blk_alloc ?_ _)); exact BK311.out⟩, ⟨by repeat (first | (with_reducible first | exact HB.out | apply below_alloc | apply pw_below_drewN | apply below_drew1 | refine below_set ?_ GE311.out) | exact HB.out)⟩⟩
                                        · replace c65 := Bool.eq_false_iff.mpr c65
                                          subst c65
                                          have H1 : (some false) = some r := by rw [if_neg (show ¬ (false = true) by decide)] at H; exact H
                                          clear H
                                          have H := H1
                                          clear H1
                                          exact absurd ((Option.some.inj H).trans HR_.out) (by decide)
                                      · rw [if_neg c63] at H
                                        exact absurd H (by simp)
                                    · rw [if_neg c62] at H
                                      have c62b0 : decide (0 < (rd t313 x86_3)) = false := decide_eq_false c62
                                      clear c62
                                      have H' := Aside0.mk H
                                      clear H
                                      have p326 : 0 ≤ (x86_3 : Int) := of_decide_eq_true (by first | (with_reducible assumption) | assumption)
                                      have q326 : x86_3 < (t313.length : Int) := of_decide_eq_true (by first | (with_reducible assumption) | assumption)
                                      obtain ⟨ad326, e326, hx326_0⟩ := Kd.at_int (Kd.R_reads' HO_84.out).2.2 x86_3 p326 q326
                                      cases e326
                                      replace p326 := eq_true p326
                                      replace q326 := eq_true q326
                                      go_wp2
                                      repeat (go_quiet (fail); try go_wp2)
                                      go_roundg k3
                                      case measure => have := HJ6.out; have := HK2.out; have := HK3.out; omega
                                      case rel => exact ⟨(wrap64 (x86_3 + 1)), (by first | rfl | (simp; done) | (simp [*]; done)), H', ⟨by have := HJ6.out; have := HK2.out; have := HK3.out; omega⟩, ⟨by (with_reducible repeat (first | apply Kd.R_alloc | apply Kd.R_drewN | apply Kd.R_drew)); exact HO_7.out⟩, ⟨by (with_reducible repeat (first | apply Kd.R_alloc | apply Kd.R_drewN | apply Kd.R_drew)); exact HO_84.out⟩, ⟨by (with_reducible repeat (first | refine blk_drewN ?_ _ | refine blk_drew ?_ | refine blk_alloc ?_ _)); exact BK311.out⟩, ⟨by repeat (first | (with_reducible first | exact HB.out | apply below_alloc | apply pw_below_drewN | apply below_drew1 | refine below_set ?_ GE311.out) | exact HB.out)⟩⟩
                              · rw [if_neg c53] at H
                                exact absurd H (by simp)
                            · rw [if_neg c52] at H
                              exact absurd H (by simp)
                          · rw [if_neg c51] at H
                            have c51b0 : decide (x86_3 < (t313.length : Int)) = false := decide_eq_false c51
                            clear c51
                            obtain rfl := Option.some.inj H
                            go_wp2
                            repeat (go_quiet (fail); try go_wp2)
                            go_ret
                            exact ⟨by first | rfl | (simp [errW_none, errW_some] <;> rfl) | (simp [*, errW_none, errW_some] <;> rfl), by repeat (first | (with_reducible first | exact HB.out | apply below_alloc | apply pw_below_drewN | apply below_drew1 | refine below_set ?_ GE311.out) | exact HB.out)⟩
              · rw [if_neg c21] at H
                exact absurd H (by simp)
            · rw [if_neg c20] at H
              exact absurd H (by simp)
    · rw [if_neg c6] at H
      have c6b0 : (t316 == 0) = false := beq_eq_false_iff_ne.mpr c6
      have c6b1 : (t316 != 0) = true := bne_iff_ne.mpr c6
      obtain rfl := Option.some.inj H
      go_enter Try.func5, Try.ntmps5
      go_wp2_with (first | ((with_reducible refine gate_dst (N := 2) rfl ?_); refine box_event ?hg (N := 2) ?hd (cs := #[.int .i64 a0_0, .slice A0_1 l0_1.length c0_1]) (t := 24) ?hr ?_; (case hd => rfl); (case hg => rfl); (case hr => first | (go_simp; done) | (go_simp; rfl)); intro gb311 hg w67 hbox hb; have n0_ := Aside0.mk (below_step (by repeat (first | (with_reducible first | exact HB.out | apply below_alloc | apply pw_below_drewN | apply below_drew1) | exact HB.out)) hb); have n1_ := Aside0.mk (hbox); have n2_ := Aside0.mk ((by rw [hg]; exact (below_size (by repeat (first | (with_reducible first | exact HB.out | apply below_alloc | apply pw_below_drewN | apply below_drew1) | exact HB.out))) : w.heap.size ≤ gb311)); have n3_ := Aside0.mk ((by rw [hg]; exact (below_size (by repeat (first | (with_reducible first | exact HB.out | apply below_alloc | apply pw_below_drewN | apply below_drew1) | exact HB.out))) : w.heap.size ≤ gb311)); clear HB; have HB := n0_; have BK311 := n1_; have GW311 := n2_; have GE311 := n3_; clear n0_ n1_ n2_ n3_; clear hb hbox hg) | (go_at_call 12; (with_reducible refine (compasslaw04_awake.calls k  true _ A3.out).mono ?_); rintro e w68 ⟨rfl, hb⟩; have n0_ := Aside0.mk (blk_below (g := gb311) (o := .cells #[.int .i64 a0_0, .slice A0_1 l0_1.length c0_1] 24 (0, 0)) (by (with_reducible repeat (first | refine blk_drewN ?_ _ | refine blk_drew ?_ | refine blk_alloc ?_ _)); exact BK311.out) hb); have n1_ := Aside0.mk (below_step (by repeat (first | (with_reducible first | exact HB.out | apply below_alloc | apply pw_below_drewN | apply below_drew1 | refine below_set ?_ GE311.out) | exact HB.out)) hb); clear BK311; clear HB; have BK311 := n0_; have HB := n1_; clear n0_ n1_; (try clear hb); (try clear hb2); (try clear hk); (try clear hi); have hcz69_0 : w68.cell? ⟨gb311, 0, none⟩ = some (.int .i64 a0_0) := (blk_cell BK311.out 0).trans rfl; have hcz69_1 : w68.cell? ⟨gb311, 1, none⟩ = some (.slice A0_1 l0_1.length c0_1) := (blk_cell BK311.out 1).trans rfl; have hfz69_0 := blk_frozen BK311.out 0; have hfz69_1 := blk_frozen BK311.out 1) | (go_at_call 13; (with_reducible refine (walk_Levels.calls k a0_0 _ _ l0_1 a1 t313 t316 _ ?side1 ?side2 A5.out).mono ?_); (case side1 => repeat (first | exact (Kd.C_below HR0_1.out HB.out) | (with_reducible refine Kd.C_alloc ?_ _) | (with_reducible refine Kd.C_drewN ?_ _) | (with_reducible refine Kd.C_drew ?_))); (case side2 => exact HC0_1.out); rintro e w70 ⟨v314, rfl, ho0, hb⟩; have n0_ := Aside0.mk (Kd.R_lower ho0 (below_size (by repeat (first | (with_reducible first | exact HB.out | apply below_alloc | apply pw_below_drewN | apply below_drew1 | refine below_set ?_ GE311.out) | exact HB.out)))); have n1_ := Aside0.mk (blk_below (g := gb311) (o := .cells #[.int .i64 a0_0, .slice A0_1 l0_1.length c0_1] 24 (0, 0)) (by (with_reducible repeat (first | refine blk_drewN ?_ _ | refine blk_drew ?_ | refine blk_alloc ?_ _)); exact BK311.out) hb); have n2_ := Aside0.mk (below_step (by repeat (first | (with_reducible first | exact HB.out | apply below_alloc | apply pw_below_drewN | apply below_drew1 | refine below_set ?_ GE311.out) | exact HB.out)) hb); clear BK311; clear HB; have HO315 := n0_; have BK311 := n1_; have HB := n2_; clear n0_ n1_ n2_; (try clear hb); (try clear hb2); (try clear hk); (try clear hi); (try clear ho0); obtain ⟨Ao71, co71, eo71⟩ := Kd.R_slice HO315.out; subst eo71))
      repeat (go_quiet (first | ((with_reducible refine gate_dst (N := 2) rfl ?_); refine box_event ?hg (N := 2) ?hd (cs := #[.int .i64 a0_0, .slice A0_1 l0_1.length c0_1]) (t := 24) ?hr ?_; (case hd => rfl); (case hg => rfl); (case hr => first | (go_simp; done) | (go_simp; rfl)); intro gb311 hg w67 hbox hb; have n0_ := Aside0.mk (below_step (by repeat (first | (with_reducible first | exact HB.out | apply below_alloc | apply pw_below_drewN | apply below_drew1) | exact HB.out)) hb); have n1_ := Aside0.mk (hbox); have n2_ := Aside0.mk ((by rw [hg]; exact (below_size (by repeat (first | (with_reducible first | exact HB.out | apply below_alloc | apply pw_below_drewN | apply below_drew1) | exact HB.out))) : w.heap.size ≤ gb311)); have n3_ := Aside0.mk ((by rw [hg]; exact (below_size (by repeat (first | (with_reducible first | exact HB.out | apply below_alloc | apply pw_below_drewN | apply below_drew1) | exact HB.out))) : w.heap.size ≤ gb311)); clear HB; have HB := n0_; have BK311 := n1_; have GW311 := n2_; have GE311 := n3_; clear n0_ n1_ n2_ n3_; clear hb hbox hg) | (go_at_call 12; (with_reducible refine (compasslaw04_awake.calls k  true _ A3.out).mono ?_); rintro e w68 ⟨rfl, hb⟩; have n0_ := Aside0.mk (blk_below (g := gb311) (o := .cells #[.int .i64 a0_0, .slice A0_1 l0_1.length c0_1] 24 (0, 0)) (by (with_reducible repeat (first | refine blk_drewN ?_ _ | refine blk_drew ?_ | refine blk_alloc ?_ _)); exact BK311.out) hb); have n1_ := Aside0.mk (below_step (by repeat (first | (with_reducible first | exact HB.out | apply below_alloc | apply pw_below_drewN | apply below_drew1 | refine below_set ?_ GE311.out) | exact HB.out)) hb); clear BK311; clear HB; have BK311 := n0_; have HB := n1_; clear n0_ n1_; (try clear hb); (try clear hb2); (try clear hk); (try clear hi); have hcz69_0 : w68.cell? ⟨gb311, 0, none⟩ = some (.int .i64 a0_0) := (blk_cell BK311.out 0).trans rfl; have hcz69_1 : w68.cell? ⟨gb311, 1, none⟩ = some (.slice A0_1 l0_1.length c0_1) := (blk_cell BK311.out 1).trans rfl; have hfz69_0 := blk_frozen BK311.out 0; have hfz69_1 := blk_frozen BK311.out 1) | (go_at_call 13; (with_reducible refine (walk_Levels.calls k a0_0 _ _ l0_1 a1 t313 t316 _ ?side1 ?side2 A5.out).mono ?_); (case side1 => repeat (first | exact (Kd.C_below HR0_1.out HB.out) | (with_reducible refine Kd.C_alloc ?_ _) | (with_reducible refine Kd.C_drewN ?_ _) | (with_reducible refine Kd.C_drew ?_))); (case side2 => exact HC0_1.out); rintro e w70 ⟨v314, rfl, ho0, hb⟩; have n0_ := Aside0.mk (Kd.R_lower ho0 (below_size (by repeat (first | (with_reducible first | exact HB.out | apply below_alloc | apply pw_below_drewN | apply below_drew1 | refine below_set ?_ GE311.out) | exact HB.out)))); have n1_ := Aside0.mk (blk_below (g := gb311) (o := .cells #[.int .i64 a0_0, .slice A0_1 l0_1.length c0_1] 24 (0, 0)) (by (with_reducible repeat (first | refine blk_drewN ?_ _ | refine blk_drew ?_ | refine blk_alloc ?_ _)); exact BK311.out) hb); have n2_ := Aside0.mk (below_step (by repeat (first | (with_reducible first | exact HB.out | apply below_alloc | apply pw_below_drewN | apply below_drew1 | refine below_set ?_ GE311.out) | exact HB.out)) hb); clear BK311; clear HB; have HO315 := n0_; have BK311 := n1_; have HB := n2_; clear n0_ n1_ n2_; (try clear hb); (try clear hb2); (try clear hk); (try clear hi); (try clear ho0); obtain ⟨Ao71, co71, eo71⟩ := Kd.R_slice HO315.out; subst eo71)); try go_wp2_with (first | ((with_reducible refine gate_dst (N := 2) rfl ?_); refine box_event ?hg (N := 2) ?hd (cs := #[.int .i64 a0_0, .slice A0_1 l0_1.length c0_1]) (t := 24) ?hr ?_; (case hd => rfl); (case hg => rfl); (case hr => first | (go_simp; done) | (go_simp; rfl)); intro gb311 hg w67 hbox hb; have n0_ := Aside0.mk (below_step (by repeat (first | (with_reducible first | exact HB.out | apply below_alloc | apply pw_below_drewN | apply below_drew1) | exact HB.out)) hb); have n1_ := Aside0.mk (hbox); have n2_ := Aside0.mk ((by rw [hg]; exact (below_size (by repeat (first | (with_reducible first | exact HB.out | apply below_alloc | apply pw_below_drewN | apply below_drew1) | exact HB.out))) : w.heap.size ≤ gb311)); have n3_ := Aside0.mk ((by rw [hg]; exact (below_size (by repeat (first | (with_reducible first | exact HB.out | apply below_alloc | apply pw_below_drewN | apply below_drew1) | exact HB.out))) : w.heap.size ≤ gb311)); clear HB; have HB := n0_; have BK311 := n1_; have GW311 := n2_; have GE311 := n3_; clear n0_ n1_ n2_ n3_; clear hb hbox hg) | (go_at_call 12; (with_reducible refine (compasslaw04_awake.calls k  true _ A3.out).mono ?_); rintro e w68 ⟨rfl, hb⟩; have n0_ := Aside0.mk (blk_below (g := gb311) (o := .cells #[.int .i64 a0_0, .slice A0_1 l0_1.length c0_1] 24 (0, 0)) (by (with_reducible repeat (first | refine blk_drewN ?_ _ | refine blk_drew ?_ | refine blk_alloc ?_ _)); exact BK311.out) hb); have n1_ := Aside0.mk (below_step (by repeat (first | (with_reducible first | exact HB.out | apply below_alloc | apply pw_below_drewN | apply below_drew1 | refine below_set ?_ GE311.out) | exact HB.out)) hb); clear BK311; clear HB; have BK311 := n0_; have HB := n1_; clear n0_ n1_; (try clear hb); (try clear hb2); (try clear hk); (try clear hi); have hcz69_0 : w68.cell? ⟨gb311, 0, none⟩ = some (.int .i64 a0_0) := (blk_cell BK311.out 0).trans rfl; have hcz69_1 : w68.cell? ⟨gb311, 1, none⟩ = some (.slice A0_1 l0_1.length c0_1) := (blk_cell BK311.out 1).trans rfl; have hfz69_0 := blk_frozen BK311.out 0; have hfz69_1 := blk_frozen BK311.out 1) | (go_at_call 13; (with_reducible refine (walk_Levels.calls k a0_0 _ _ l0_1 a1 t313 t316 _ ?side1 ?side2 A5.out).mono ?_); (case side1 => repeat (first | exact (Kd.C_below HR0_1.out HB.out) | (with_reducible refine Kd.C_alloc ?_ _) | (with_reducible refine Kd.C_drewN ?_ _) | (with_reducible refine Kd.C_drew ?_))); (case side2 => exact HC0_1.out); rintro e w70 ⟨v314, rfl, ho0, hb⟩; have n0_ := Aside0.mk (Kd.R_lower ho0 (below_size (by repeat (first | (with_reducible first | exact HB.out | apply below_alloc | apply pw_below_drewN | apply below_drew1 | refine below_set ?_ GE311.out) | exact HB.out)))); have n1_ := Aside0.mk (blk_below (g := gb311) (o := .cells #[.int .i64 a0_0, .slice A0_1 l0_1.length c0_1] 24 (0, 0)) (by (with_reducible repeat (first | refine blk_drewN ?_ _ | refine blk_drew ?_ | refine blk_alloc ?_ _)); exact BK311.out) hb); have n2_ := Aside0.mk (below_step (by repeat (first | (with_reducible first | exact HB.out | apply below_alloc | apply pw_below_drewN | apply below_drew1 | refine below_set ?_ GE311.out) | exact HB.out)) hb); clear BK311; clear HB; have HO315 := n0_; have BK311 := n1_; have HB := n2_; clear n0_ n1_ n2_; (try clear hb); (try clear hb2); (try clear hk); (try clear hi); (try clear ho0); obtain ⟨Ao71, co71, eo71⟩ := Kd.R_slice HO315.out; subst eo71)))
      go_ret
      exact ⟨by first | rfl | (simp [errW_none, errW_some] <;> rfl) | (simp [*, errW_none, errW_some] <;> rfl), by repeat (first | (with_reducible first | exact HB.out | apply below_alloc | apply pw_below_drewN | apply below_drew1 | refine below_set ?_ GE311.out) | exact HB.out)⟩
  · replace c4 := Bool.eq_false_iff.mpr c4
    subst c4
    have H1 : (some false) = some r := by rw [if_neg (show ¬ (false = true) by decide)] at H; exact H
    clear H
    have H := H1
    clear H1
    exact absurd ((Option.some.inj H).trans HR_.out) (by decide)

end Go.Proofs.Ytacklfnnpiobgaa.Q
