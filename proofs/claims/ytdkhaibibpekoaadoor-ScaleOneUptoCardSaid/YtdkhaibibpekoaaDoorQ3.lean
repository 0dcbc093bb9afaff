-- PRINTED by print.py (a twelfth state) out of the translation. Not trusted: Lean checks it.
import Derived.Test.YtdkhaibibpekoaaDoorQ0
import Derived.Test.YtdkhaibibpekoaaDoorQ1
import Derived.Test.YtdkhaibibpekoaaDoorQ2
namespace Go.Proofs.YtdkhaibibpekoaaDoor.Q
open Go.RowKit Go.Proofs.YtdkhaibibpekoaaDoorW.PrintWords Go.Proofs.YtdkhaibibpekoaaDoorW.PrintLast Go.Proofs.YtdkhaibibpekoaaDoorW.PrintMore
attribute [local go_sem] max2_int min2_int max_two min_two max_three min_three max_four min_four   -- for this text's walks alone
set_option linter.unusedVariables false
set_option linter.unusedSimpArgs false

/-! ### scale_Admit: function 8 -/
mutual
def scale_Admit.j0 : Nat → List Nat → Int → Bool → Option (List Int × Int × Int × Int)
  | 0, _, _, _ => none
  | k + 1, x0, x1, x23 => if x23 = true then (some (([] : List Int), 0, 1, 0)) else (scale_Admit.l0 k x0 x1 0 false x0 (x0.length : Int) 0)
def scale_Admit.l0 : Nat → List Nat → Int → Int → Bool → List Nat → Int → Int → Option (List Int × Int × Int × Int)
  | 0, _, _, _, _, _, _, _ => none
  | k + 1, x0, x1, x7, x8, x25, x26, x27 => if x27 < x26 then (if 0 ≤ x27 then (if x27 < (x25.length : Int) then ((math_IsNaN.f (rdOf (0 : Nat) x25 x27)).bind fun t114 => (if t114 = true then (some (([] : List Int), 0, 20, x27)) else ((math_IsInf.f (rdOf (0 : Nat) x25 x27) 0).bind fun t115 => (if t115 = true then (some (([] : List Int), 0, 21, x27)) else (if (Go.FloatKind.f64.format.order (rdOf (0 : Nat) x25 x27) 0 == some .eq) = true then (scale_Admit.l0 k x0 x1 x7 x8 x25 x26 (wrap64 (x27 + 1))) else ((scale_parts.f k (rdOf (0 : Nat) x25 x27)).bind fun bt116 => (if x8 = true then (if bt116.2 < x7 then (scale_Admit.l0 k x0 x1 bt116.2 true x25 x26 (wrap64 (x27 + 1))) else (scale_Admit.l0 k x0 x1 x7 x8 x25 x26 (wrap64 (x27 + 1)))) else (scale_Admit.l0 k x0 x1 bt116.2 true x25 x26 (wrap64 (x27 + 1)))))))))) else (none)) else (none)) else (if 0 ≤ (x0.length : Int) then (if ((x0.length : Int) : Int).toNat ≤ 35184372088832 then (scale_Admit.l1 k x1 x7 (([] : List Int)) x0 (x0.length : Int) 0) else (none)) else (none))
def scale_Admit.l1 : Nat → Int → Int → List Int → List Nat → Int → Int → Option (List Int × Int × Int × Int)
  | 0, _, _, _, _, _, _ => none
  | k + 1, x1, x7, x13, x62, x63, x64 => if x64 < x63 then (if 0 ≤ x64 then (if x64 < (x62.length : Int) then ((scale_parts.f k (rdOf (0 : Nat) x62 x64)).bind fun bt122 => (if bt122.1 = 0 then (scale_Admit.j3 k x1 x7 x13 x64 bt122.1 bt122.2 x62 x63 x64 false) else (scale_Admit.j3 k x1 x7 x13 x64 bt122.1 bt122.2 x62 x63 x64 (decide ((wrap64 (bt122.2 - x7)) > 53))))) else (none)) else (none)) else (some (x13, x7, 0, 0))
def scale_Admit.j3 : Nat → Int → Int → List Int → Int → Int → Int → List Nat → Int → Int → Bool → Option (List Int × Int × Int × Int)
  | 0, _, _, _, _, _, _, _, _, _, _ => none
  | k + 1, x1, x7, x13, x14, x16, x17, x62, x63, x64, x81 => if x81 = true then (some (([] : List Int), 0, 22, x14)) else (if x16 = 0 then (if x16 > x1 then (some (([] : List Int), 0, 22, x14)) else (if (wrap64 (-x16)) > x1 then (some (([] : List Int), 0, 22, x14)) else (if x13.length < 17592186044416 then (scale_Admit.l1 k x1 x7 (x13 ++ [x16]) x62 x63 (wrap64 (x64 + 1))) else (none)))) else (scale_Admit.l2 k x1 x7 x13 x14 x16 x17 x62 x63 x64))
def scale_Admit.l2 : Nat → Int → Int → List Int → Int → Int → Int → List Nat → Int → Int → Option (List Int × Int × Int × Int)
  | 0, _, _, _, _, _, _, _, _, _ => none
  | k + 1, x1, x7, x13, x14, x16, x17, x62, x63, x64 => if x17 > x7 then (if x16 ≤ x1 then (if (wrap64 (-x16)) ≤ x1 then (scale_Admit.l2 k x1 x7 x13 x14 (wrap64 (x16 * 2)) (wrap64 (x17 - 1)) x62 x63 x64) else (if x16 > x1 then (some (([] : List Int), 0, 22, x14)) else (if (wrap64 (-x16)) > x1 then (some (([] : List Int), 0, 22, x14)) else (if x13.length < 17592186044416 then (scale_Admit.l1 k x1 x7 (x13 ++ [x16]) x62 x63 (wrap64 (x64 + 1))) else (none))))) else (if x16 > x1 then (some (([] : List Int), 0, 22, x14)) else (if (wrap64 (-x16)) > x1 then (some (([] : List Int), 0, 22, x14)) else (if x13.length < 17592186044416 then (scale_Admit.l1 k x1 x7 (x13 ++ [x16]) x62 x63 (wrap64 (x64 + 1))) else (none))))) else (if x16 > x1 then (some (([] : List Int), 0, 22, x14)) else (if (wrap64 (-x16)) > x1 then (some (([] : List Int), 0, 22, x14)) else (if x13.length < 17592186044416 then (scale_Admit.l1 k x1 x7 (x13 ++ [x16]) x62 x63 (wrap64 (x64 + 1))) else (none))))
end
def scale_Admit.f (k : Nat) (l0 : List Nat) (a1 : Int) : Option (List Int × Int × Int × Int) := if a1 < 1 then (scale_Admit.j0 k l0 a1 true) else (scale_Admit.j0 k l0 a1 (decide (a1 > 9007199254740992)))
theorem scale_Admit.mono_l : ∀ k, (∀ y0 y1 y2, LeO (scale_Admit.j0 k y0 y1 y2) (scale_Admit.j0 (k + 1) y0 y1 y2)) ∧ (∀ y0 y1 y2 y3 y4 y5 y6, LeO (scale_Admit.l0 k y0 y1 y2 y3 y4 y5 y6) (scale_Admit.l0 (k + 1) y0 y1 y2 y3 y4 y5 y6)) ∧ (∀ y0 y1 y2 y3 y4 y5, LeO (scale_Admit.l1 k y0 y1 y2 y3 y4 y5) (scale_Admit.l1 (k + 1) y0 y1 y2 y3 y4 y5)) ∧ (∀ y0 y1 y2 y3 y4 y5 y6 y7 y8 y9, LeO (scale_Admit.j3 k y0 y1 y2 y3 y4 y5 y6 y7 y8 y9) (scale_Admit.j3 (k + 1) y0 y1 y2 y3 y4 y5 y6 y7 y8 y9)) ∧ (∀ y0 y1 y2 y3 y4 y5 y6 y7 y8, LeO (scale_Admit.l2 k y0 y1 y2 y3 y4 y5 y6 y7 y8) (scale_Admit.l2 (k + 1) y0 y1 y2 y3 y4 y5 y6 y7 y8))
  | 0 => ⟨fun _ _ _ r h => by simp [scale_Admit.j0] at h, fun _ _ _ _ _ _ _ r h => by simp [scale_Admit.l0] at h, fun _ _ _ _ _ _ r h => by simp [scale_Admit.l1] at h, fun _ _ _ _ _ _ _ _ _ _ r h => by simp [scale_Admit.j3] at h, fun _ _ _ _ _ _ _ _ _ r h => by simp [scale_Admit.l2] at h⟩
  | k + 1 => by
    obtain ⟨ih0, ih1, ih2, ih3, ih4⟩ := scale_Admit.mono_l k
    refine ⟨?_, ?_, ?_, ?_, ?_⟩
    · intro y0 y1 y2
      unfold scale_Admit.j0
      repeat' first
      | (with_reducible exact ih0 _ _ _)
      | (with_reducible exact ih1 _ _ _ _ _ _ _)
      | (with_reducible exact ih2 _ _ _ _ _ _)
      | (with_reducible exact ih3 _ _ _ _ _ _ _ _ _ _)
      | (with_reducible exact ih4 _ _ _ _ _ _ _ _ _)
      | (with_reducible exact scale_parts.mono _ _)
      | (with_reducible exact LeO.refl _)
      | (with_reducible exact LeO.none _)
      | (with_reducible refine LeO.ite ?_ ?_)
      | (with_reducible refine LeO.bind ?_ (fun _ => ?_))
      | exact ih0 _ _ _
      | exact ih1 _ _ _ _ _ _ _
      | exact ih2 _ _ _ _ _ _
      | exact ih3 _ _ _ _ _ _ _ _ _ _
      | exact ih4 _ _ _ _ _ _ _ _ _
      | exact scale_parts.mono _ _
      | exact LeO.none _
      | refine LeO.ite ?_ ?_
      | refine LeO.bind ?_ (fun _ => ?_)
    · intro y0 y1 y2 y3 y4 y5 y6
      unfold scale_Admit.l0
      repeat' first
      | (with_reducible exact ih0 _ _ _)
      | (with_reducible exact ih1 _ _ _ _ _ _ _)
      | (with_reducible exact ih2 _ _ _ _ _ _)
      | (with_reducible exact ih3 _ _ _ _ _ _ _ _ _ _)
      | (with_reducible exact ih4 _ _ _ _ _ _ _ _ _)
      | (with_reducible exact scale_parts.mono _ _)
      | (with_reducible exact LeO.refl _)
      | (with_reducible exact LeO.none _)
      | (with_reducible refine LeO.ite ?_ ?_)
      | (with_reducible refine LeO.bind ?_ (fun _ => ?_))
      | exact ih0 _ _ _
      | exact ih1 _ _ _ _ _ _ _
      | exact ih2 _ _ _ _ _ _
      | exact ih3 _ _ _ _ _ _ _ _ _ _
      | exact ih4 _ _ _ _ _ _ _ _ _
      | exact scale_parts.mono _ _
      | exact LeO.none _
      | refine LeO.ite ?_ ?_
      | refine LeO.bind ?_ (fun _ => ?_)
    · intro y0 y1 y2 y3 y4 y5
      unfold scale_Admit.l1
      repeat' first
      | (with_reducible exact ih0 _ _ _)
      | (with_reducible exact ih1 _ _ _ _ _ _ _)
      | (with_reducible exact ih2 _ _ _ _ _ _)
      | (with_reducible exact ih3 _ _ _ _ _ _ _ _ _ _)
      | (with_reducible exact ih4 _ _ _ _ _ _ _ _ _)
      | (with_reducible exact scale_parts.mono _ _)
      | (with_reducible exact LeO.refl _)
      | (with_reducible exact LeO.none _)
      | (with_reducible refine LeO.ite ?_ ?_)
      | (with_reducible refine LeO.bind ?_ (fun _ => ?_))
      | exact ih0 _ _ _
      | exact ih1 _ _ _ _ _ _ _
      | exact ih2 _ _ _ _ _ _
      | exact ih3 _ _ _ _ _ _ _ _ _ _
      | exact ih4 _ _ _ _ _ _ _ _ _
      | exact scale_parts.mono _ _
      | exact LeO.none _
      | refine LeO.ite ?_ ?_
      | refine LeO.bind ?_ (fun _ => ?_)
    · intro y0 y1 y2 y3 y4 y5 y6 y7 y8 y9
      unfold scale_Admit.j3
      repeat' first
      | (with_reducible exact ih0 _ _ _)
      | (with_reducible exact ih1 _ _ _ _ _ _ _)
      | (with_reducible exact ih2 _ _ _ _ _ _)
      | (with_reducible exact ih3 _ _ _ _ _ _ _ _ _ _)
      | (with_reducible exact ih4 _ _ _ _ _ _ _ _ _)
      | (with_reducible exact scale_parts.mono _ _)
      | (with_reducible exact LeO.refl _)
      | (with_reducible exact LeO.none _)
      | (with_reducible refine LeO.ite ?_ ?_)
      | (with_reducible refine LeO.bind ?_ (fun _ => ?_))
      | exact ih0 _ _ _
      | exact ih1 _ _ _ _ _ _ _
      | exact ih2 _ _ _ _ _ _
      | exact ih3 _ _ _ _ _ _ _ _ _ _
      | exact ih4 _ _ _ _ _ _ _ _ _
      | exact scale_parts.mono _ _
      | exact LeO.none _
      | refine LeO.ite ?_ ?_
      | refine LeO.bind ?_ (fun _ => ?_)
    · intro y0 y1 y2 y3 y4 y5 y6 y7 y8
      unfold scale_Admit.l2
      repeat' first
      | (with_reducible exact ih0 _ _ _)
      | (with_reducible exact ih1 _ _ _ _ _ _ _)
      | (with_reducible exact ih2 _ _ _ _ _ _)
      | (with_reducible exact ih3 _ _ _ _ _ _ _ _ _ _)
      | (with_reducible exact ih4 _ _ _ _ _ _ _ _ _)
      | (with_reducible exact scale_parts.mono _ _)
      | (with_reducible exact LeO.refl _)
      | (with_reducible exact LeO.none _)
      | (with_reducible refine LeO.ite ?_ ?_)
      | (with_reducible refine LeO.bind ?_ (fun _ => ?_))
      | exact ih0 _ _ _
      | exact ih1 _ _ _ _ _ _ _
      | exact ih2 _ _ _ _ _ _
      | exact ih3 _ _ _ _ _ _ _ _ _ _
      | exact ih4 _ _ _ _ _ _ _ _ _
      | exact scale_parts.mono _ _
      | exact LeO.none _
      | refine LeO.ite ?_ ?_
      | refine LeO.bind ?_ (fun _ => ?_)
theorem scale_Admit.mono : ∀ a0 a1 k, LeO (scale_Admit.f k a0 a1) (scale_Admit.f (k + 1) a0 a1) := by
  intro a0 a1 k
  obtain ⟨ih0, ih1, ih2, ih3, ih4⟩ := scale_Admit.mono_l k
  unfold scale_Admit.f
  repeat' first
      | (with_reducible exact ih0 _ _ _)
      | (with_reducible exact ih1 _ _ _ _ _ _ _)
      | (with_reducible exact ih2 _ _ _ _ _ _)
      | (with_reducible exact ih3 _ _ _ _ _ _ _ _ _ _)
      | (with_reducible exact ih4 _ _ _ _ _ _ _ _ _)
      | (with_reducible exact scale_parts.mono _ _)
      | (with_reducible exact LeO.refl _)
      | (with_reducible exact LeO.none _)
      | (with_reducible refine LeO.ite ?_ ?_)
      | (with_reducible refine LeO.bind ?_ (fun _ => ?_))
      | exact ih0 _ _ _
      | exact ih1 _ _ _ _ _ _ _
      | exact ih2 _ _ _ _ _ _
      | exact ih3 _ _ _ _ _ _ _ _ _ _
      | exact ih4 _ _ _ _ _ _ _ _ _
      | exact scale_parts.mono _ _
      | exact LeO.none _
      | refine LeO.ite ?_ ?_
      | refine LeO.bind ?_ (fun _ => ?_)
set_option maxHeartbeats 8000000 in
set_option maxRecDepth 100000 in
theorem scale_Admit.calls (k : Nat) (A0 : Option Addr) (c0 : Nat) (l0 : List Nat) (a1 : Int) (r1 : List Int) (r2 : Int) (r3 : Int) (r4 : Int) (w : World) (hr0 : Kd.C Kd.flt w A0 l0.length l0) (hc0 : l0.length ≤ c0) (h : scale_Admit.f k l0 a1 = some (r1, r2, r3, r4)) (hL : Laid w := by first | exact HL.out | exact Laid.drewN HL.out _ | exact Laid.below HL.out (by repeat (first | (with_reducible first | exact HB.out | apply below_alloc | apply pw_below_drewN | apply below_drew1) | exact HB.out | exact Below.refl _ _))) :
    Calls Tryd.prog 8 #[.slice A0 l0.length c0, .int .i64 a1] w fun e w' => ∃ v0_ : Value, e = .returned (.tuple #[v0_, .int .i64 r2, .agg #[.int .i64 r3, .int .i64 r4]]) ∧ Kd.R (Kd.int .i64) 2 w' w.heap.size (fun _ => True) v0_ r1 ∧ Below w.heap.size w w' := by
  have HL := Aside0.mk hL
  clear hL
  have hu27 := Tryd.underlying27
  have HR0 := Aside0.mk hr0
  have HC0 := Aside0.mk hc0
  clear hr0 hc0
  have HB := Aside0.mk (Below.refl w.heap.size w)
  have H : (if a1 < 1 then (scale_Admit.j0 k l0 a1 true) else (scale_Admit.j0 k l0 a1 (decide (a1 > 9007199254740992)))) = some (r1, r2, r3, r4) := h
  clear h
  have HC3 := Aside0.mk H
  clear H
  go_enter Tryd.func8, Tryd.ntmps8
  go_upto_region 1 with (first | ((with_reducible refine gate_dst (N := 6) rfl ?_); refine box_event ?hg (N := 6) ?hd (cs := #[.int .i64 0, .int .i64 0]) (t := 27) ?hr ?_; (case hd => rfl); (case hg => rfl); (case hr => first | (go_simp; done) | (go_simp; rfl)); intro gb112 hg w4 hbox hb; have n0_ := Aside0.mk (below_step (by repeat (first | (with_reducible first | exact HB.out | apply below_alloc | apply pw_below_drewN | apply below_drew1) | exact HB.out)) hb); have n1_ := Aside0.mk (hbox); have n2_ := Aside0.mk ((by rw [hg]; exact (below_size (by repeat (first | (with_reducible first | exact HB.out | apply below_alloc | apply pw_below_drewN | apply below_drew1) | exact HB.out))) : w.heap.size ≤ gb112)); have n3_ := Aside0.mk ((by rw [hg]; exact (below_size (by repeat (first | (with_reducible first | exact HB.out | apply below_alloc | apply pw_below_drewN | apply below_drew1) | exact HB.out))) : w.heap.size ≤ gb112)); clear HB; have HB := n0_; have BK112 := n1_; have GW112 := n2_; have GE112 := n3_; clear n0_ n1_ n2_ n3_; clear hb hbox hg))
  (try simp only [Act.put, List.setIfInBounds_toArray, List.set_cons_zero, List.set_cons_succ])
  go_cut [23] (fun v23 wc => ∃ (kq : Nat) (x23_2 : Bool), v23 = .bool x23_2 ∧ Aside0 (scale_Admit.j0 kq l0 a1 x23_2 = some (r1, r2, r3, r4)) ∧ Aside0 (kq ≤ k) ∧ Aside0 (wc.heap[gb112]? = some (.cells #[.int .i64 0, .int .i64 0] 27 (0, 0))) ∧ Aside0 (Below w.heap.size w wc))
  case first =>
    have H := HC3.out
    clear HC3
    by_cases c5 : a1 < 1
    · rw [if_pos c5] at H
      have c5b0 : decide (a1 < 1) = true := decide_eq_true c5
      clear c5
      (first | rw [c5b0] | (simp only [i64_w, i32_w]; rw [c5b0]) | skip)
      have H' := Aside0.mk H
      clear H
      go_wp2
      go_meet
      case rel => exact ⟨_, (true), (by first | rfl | (simp; done) | (simp [*]; done)), H', ⟨by first | omega | exact Nat.le_refl _⟩, ⟨by (with_reducible repeat (first | refine blk_drewN ?_ _ | refine blk_drew ?_ | refine blk_alloc ?_ _)); exact BK112.out⟩, ⟨by repeat (first | (with_reducible first | exact HB.out | apply below_alloc | apply pw_below_drewN | apply below_drew1 | refine below_set ?_ GE112.out) | exact HB.out)⟩⟩
    · rw [if_neg c5] at H
      have c5b0 : decide (a1 < 1) = false := decide_eq_false c5
      clear c5
      (first | rw [c5b0] | (simp only [i64_w, i32_w]; rw [c5b0]) | skip)
      have H' := Aside0.mk H
      clear H
      go_wp2
      go_meet
      case rel => exact ⟨_, (decide (a1 > 9007199254740992)), (by first | rfl | (simp; done) | (simp [*]; done)), H', ⟨by first | omega | exact Nat.le_refl _⟩, ⟨by (with_reducible repeat (first | refine blk_drewN ?_ _ | refine blk_drew ?_ | refine blk_alloc ?_ _)); exact BK112.out⟩, ⟨by repeat (first | (with_reducible first | exact HB.out | apply below_alloc | apply pw_below_drewN | apply below_drew1 | refine below_set ?_ GE112.out) | exact HB.out)⟩⟩
  case rest =>
    clear HC3
    try clear p2
    try clear c5
    try clear c5b0
    obtain ⟨kq, x23_2, rfl, HA, HJ2, BK112, HB⟩ := hcut
    cases kq with
    | zero => exact absurd HA.out (by simp [scale_Admit.j0])
    | succ kj2 =>
      have H := HA.out
      clear HA
      simp only [scale_Admit.j0] at H
      by_cases c6 : x23_2 = true
      · subst c6
        have H1 : (some (([] : List Int), 0, 1, 0)) = some (r1, r2, r3, r4) := by rw [if_pos rfl] at H; exact H
        clear H
        have H := H1
        clear H1
        simp only [Option.some.injEq, Prod.mk.injEq] at H
        obtain ⟨rfl, rfl, rfl, rfl⟩ := H
        have hcz7_0 : wc.cell? ⟨gb112, 0, none⟩ = some (.int .i64 0) := (blk_cell BK112.out 0).trans rfl
        have hcz7_1 : wc.cell? ⟨gb112, 1, none⟩ = some (.int .i64 0) := (blk_cell BK112.out 1).trans rfl
        have hfz7_0 := blk_frozen BK112.out 0
        have hfz7_1 := blk_frozen BK112.out 1
        go_wp2
        refine bodyPost_ret (results_list (rs := [.tmp 4, .tmp 5, .cell 6 27]) rfl (by simp) (.tmp (.tmp (.cell gb112 27 #[.int .i64 1, .int .i64 0] (0, 0) _ rfl (by (with_reducible repeat (first | refine blk_drewN ?_ _ | refine blk_drew ?_ | refine blk_alloc ?_ _)); refine blk_put (cs := #[.int .i64 1, .int .i64 0]) ?_ 1 _ rfl; (with_reducible repeat (first | refine blk_drewN ?_ _ | refine blk_drew ?_ | refine blk_alloc ?_ _)); refine blk_put (cs := #[.int .i64 0, .int .i64 0]) ?_ 0 _ rfl; (with_reducible repeat (first | refine blk_drewN ?_ _ | refine blk_drew ?_ | refine blk_alloc ?_ _)); exact BK112.out) Tryd.underlying27 rfl (by kernel_rfl) .nil)))) rfl ?_
        exact ⟨_, by first | rfl | (simp [errW_none, errW_some] <;> rfl) | (simp [*, errW_none, errW_some] <;> rfl), by first | exact Kd.R_nil _ _ _ _ _ | exact Kd.N_nil _ _ _ _ _ | exact Kd.V_nil _ _ _ _ _ | exact Kd.Q_nil _ _ _ _ _ | exact Kd.S_nil _ _ _ _ _, by repeat (first | (with_reducible first | exact HB.out | apply below_alloc | apply pw_below_drewN | apply below_drew1 | refine below_set ?_ GE112.out) | exact HB.out)⟩
      · replace c6 := Bool.eq_false_iff.mpr c6
        subst c6
        have H1 : (scale_Admit.l0 kj2 l0 a1 0 false l0 (l0.length : Int) 0) = some (r1, r2, r3, r4) := by rw [if_neg (show ¬ (false = true) by decide)] at H; exact H
        clear H
        have H := H1
        clear H1
        have H' := Aside0.mk H
        clear H
        go_wp2
        go_loopg [7, 8, 27] kj2 (fun kq v7 v8 v27 w' => ∃ (x7_2 : Int) (x8_2 : Bool) (x27_2 : Int) (x113000_2 : Int) (x113001_2 : Int), v7 = .int .i64 x7_2 ∧ v8 = .bool x8_2 ∧ v27 = .int .i64 x27_2 ∧ Aside0 (scale_Admit.l0 kq l0 a1 x7_2 x8_2 l0 (l0.length : Int) x27_2 = some (r1, r2, r3, r4)) ∧ Aside0 (kq ≤ kj2) ∧ Aside0 (w'.heap[gb112]? = some (.cells #[.int .i64 x113000_2, .int .i64 x113001_2] 27 (0, 0))) ∧ Aside0 (Below w.heap.size w w'))
        case atStart => exact ⟨(0), (false), (0), (0), (0), (by first | rfl | (simp; done) | (simp [*]; done)), (by first | rfl | (simp; done) | (simp [*]; done)), (by first | rfl | (simp; done) | (simp [*]; done)), H', ⟨Nat.le_refl _⟩, ⟨by (with_reducible repeat (first | refine blk_drewN ?_ _ | refine blk_drew ?_ | refine blk_alloc ?_ _)); exact BK112.out⟩, ⟨by repeat (first | (with_reducible first | exact HB.out | apply below_alloc | apply pw_below_drewN | apply below_drew1 | refine below_set ?_ GE112.out) | exact HB.out)⟩⟩
        case round =>
          clear H'
          try clear p2
          try clear c5
          try clear c5b0
          try clear c6
          try clear hcz7_0
          try clear hcz7_1
          try clear hfz7_0
          try clear hfz7_1
          try clear p2
          obtain ⟨x7_2, x8_2, x27_2, x113000_2, x113001_2, rfl, rfl, rfl, HA, HK2, BK112, HB⟩ := hrel
          cases gk with
          | zero => exact absurd HA.out (by simp [scale_Admit.l0])
          | succ k2 =>
            have H := HA.out
            clear HA
            simp only [scale_Admit.l0] at H
            by_cases c8 : x27_2 < (l0.length : Int)
            · rw [if_pos c8] at H
              have c8b0 : decide (x27_2 < (l0.length : Int)) = true := decide_eq_true c8
              clear c8
              by_cases c9 : 0 ≤ x27_2
              · rw [if_pos c9] at H
                have c9b0 : decide (0 ≤ x27_2) = true := decide_eq_true c9
                clear c9
                by_cases c10 : x27_2 < (l0.length : Int)
                · rw [if_pos c10] at H
                  have c10b0 : decide (x27_2 < (l0.length : Int)) = true := decide_eq_true c10
                  clear c10
                  replace H := Option.bind_eq_some_iff.mp H
                  obtain ⟨t114, A110, H⟩ := H
                  replace H : (if t114 = true then (some (([] : List Int), 0, 20, x27_2)) else ((math_IsInf.f (rdOf (0 : Nat) l0 x27_2) 0).bind fun t115 => (if t115 = true then (some (([] : List Int), 0, 21, x27_2)) else (if (Go.FloatKind.f64.format.order (rdOf (0 : Nat) l0 x27_2) 0 == some .eq) = true then (scale_Admit.l0 k2 l0 a1 x7_2 x8_2 l0 (l0.length : Int) (wrap64 (x27_2 + 1))) else ((scale_parts.f k2 (rdOf (0 : Nat) l0 x27_2)).bind fun bt116 => (if x8_2 = true then (if bt116.2 < x7_2 then (scale_Admit.l0 k2 l0 a1 bt116.2 true l0 (l0.length : Int) (wrap64 (x27_2 + 1))) else (scale_Admit.l0 k2 l0 a1 x7_2 x8_2 l0 (l0.length : Int) (wrap64 (x27_2 + 1)))) else (scale_Admit.l0 k2 l0 a1 bt116.2 true l0 (l0.length : Int) (wrap64 (x27_2 + 1))))))))) = some (r1, r2, r3, r4) := H
                  have A11 := Aside0.mk A110
                  clear A110
                  by_cases c12 : t114 = true
                  · subst c12
                    have H1 : (some (([] : List Int), 0, 20, x27_2)) = some (r1, r2, r3, r4) := by rw [if_pos rfl] at H; exact H
                    clear H
                    have H := H1
                    clear H1
                    simp only [Option.some.injEq, Prod.mk.injEq] at H
                    obtain ⟨rfl, rfl, rfl, rfl⟩ := H
                    have p113 : 0 ≤ (x27_2 : Int) := of_decide_eq_true (by first | (with_reducible assumption) | assumption)
                    have q113 : x27_2 < (l0.length : Int) := of_decide_eq_true (by first | (with_reducible assumption) | assumption)
                    obtain ⟨ad113, e113, hx113_0⟩ := Kd.at_flt HR0.out x27_2 p113 q113
                    cases e113
                    replace hx113_0 := (HB.out.cell (World.block_lt_of_cell? w _ hx113_0)).trans hx113_0
                    replace p113 := eq_true p113
                    replace q113 := eq_true q113
                    go_wp2_with (first | ((with_reducible refine gate_callee (f := 17) rfl ?_); refine goesL_ (some 34) rfl rfl Tryd.func17 (by kernel_rfl) rfl #[.float .f64 (rdOf (0 : Nat) l0 x27_2)] rfl (by (try simp only [List.map_toArray, List.map_cons, List.map_nil]); first | done | rfl | (simp only [List.length_drop, List.length_take]; rfl)) ?_; (with_reducible refine (math_IsNaN.calls (rdOf (0 : Nat) l0 x27_2) true _ A11.out).mono ?_); rintro e w' ⟨rfl, ⟨nd, rfl⟩⟩; refine ⟨_, rfl, ?_⟩; (try (rw [drewN_self wr]; generalize hq_ : World.drewN wr _ = wr; have n0_ : Aside0 (wr.heap[gb112]? = some (.cells #[.int .i64 x113000_2, .int .i64 x113001_2] 27 (0, 0))) := ⟨by rw [← hq_]; exact (by (with_reducible repeat (first | refine blk_drewN ?_ _ | refine blk_drew ?_ | refine blk_alloc ?_ _)); exact BK112.out)⟩; have n1_ : Aside0 (Below w.heap.size w wr) := ⟨by rw [← hq_]; exact (by repeat (first | (with_reducible first | exact HB.out | apply below_alloc | apply pw_below_drewN | apply below_drew1 | refine below_set ?_ GE112.out) | exact HB.out))⟩; clear BK112 HB hq_; have BK112 := n0_; have HB := n1_; clear n0_ n1_)); have hcz13_0 : wr.cell? ⟨gb112, 0, none⟩ = some (.int .i64 x113000_2) := (blk_cell BK112.out 0).trans rfl; have hcz13_1 : wr.cell? ⟨gb112, 1, none⟩ = some (.int .i64 x113001_2) := (blk_cell BK112.out 1).trans rfl; have hfz13_0 := blk_frozen BK112.out 0; have hfz13_1 := blk_frozen BK112.out 1))
                    refine bodyPost_ret (results_list (rs := [.tmp 4, .tmp 5, .cell 6 27]) rfl (by simp) (.tmp (.tmp (.cell gb112 27 #[.int .i64 20, .int .i64 x27_2] (0, 0) _ rfl (by (with_reducible repeat (first | refine blk_drewN ?_ _ | refine blk_drew ?_ | refine blk_alloc ?_ _)); refine blk_put (cs := #[.int .i64 20, .int .i64 x113001_2]) ?_ 1 _ rfl; (with_reducible repeat (first | refine blk_drewN ?_ _ | refine blk_drew ?_ | refine blk_alloc ?_ _)); refine blk_put (cs := #[.int .i64 x113000_2, .int .i64 x113001_2]) ?_ 0 _ rfl; (with_reducible repeat (first | refine blk_drewN ?_ _ | refine blk_drew ?_ | refine blk_alloc ?_ _)); exact BK112.out) Tryd.underlying27 rfl (by kernel_rfl) .nil)))) rfl ?_
                    exact ⟨_, by first | rfl | (simp [errW_none, errW_some] <;> rfl) | (simp [*, errW_none, errW_some] <;> rfl), by first | exact Kd.R_nil _ _ _ _ _ | exact Kd.N_nil _ _ _ _ _ | exact Kd.V_nil _ _ _ _ _ | exact Kd.Q_nil _ _ _ _ _ | exact Kd.S_nil _ _ _ _ _, by repeat (first | (with_reducible first | exact HB.out | apply below_alloc | apply pw_below_drewN | apply below_drew1 | refine below_set ?_ GE112.out) | exact HB.out)⟩
                  · replace c12 := Bool.eq_false_iff.mpr c12
                    subst c12
                    have H1 : ((math_IsInf.f (rdOf (0 : Nat) l0 x27_2) 0).bind fun t115 => (if t115 = true then (some (([] : List Int), 0, 21, x27_2)) else (if (Go.FloatKind.f64.format.order (rdOf (0 : Nat) l0 x27_2) 0 == some .eq) = true then (scale_Admit.l0 k2 l0 a1 x7_2 x8_2 l0 (l0.length : Int) (wrap64 (x27_2 + 1))) else ((scale_parts.f k2 (rdOf (0 : Nat) l0 x27_2)).bind fun bt116 => (if x8_2 = true then (if bt116.2 < x7_2 then (scale_Admit.l0 k2 l0 a1 bt116.2 true l0 (l0.length : Int) (wrap64 (x27_2 + 1))) else (scale_Admit.l0 k2 l0 a1 x7_2 x8_2 l0 (l0.length : Int) (wrap64 (x27_2 + 1)))) else (scale_Admit.l0 k2 l0 a1 bt116.2 true l0 (l0.length : Int) (wrap64 (x27_2 + 1)))))))) = some (r1, r2, r3, r4) := by rw [if_neg (show ¬ (false = true) by decide)] at H; exact H
                    clear H
                    have H := H1
                    clear H1
                    replace H := Option.bind_eq_some_iff.mp H
                    obtain ⟨t115, A140, H⟩ := H
                    replace H : (if t115 = true then (some (([] : List Int), 0, 21, x27_2)) else (if (Go.FloatKind.f64.format.order (rdOf (0 : Nat) l0 x27_2) 0 == some .eq) = true then (scale_Admit.l0 k2 l0 a1 x7_2 x8_2 l0 (l0.length : Int) (wrap64 (x27_2 + 1))) else ((scale_parts.f k2 (rdOf (0 : Nat) l0 x27_2)).bind fun bt116 => (if x8_2 = true then (if bt116.2 < x7_2 then (scale_Admit.l0 k2 l0 a1 bt116.2 true l0 (l0.length : Int) (wrap64 (x27_2 + 1))) else (scale_Admit.l0 k2 l0 a1 x7_2 x8_2 l0 (l0.length : Int) (wrap64 (x27_2 + 1)))) else (scale_Admit.l0 k2 l0 a1 bt116.2 true l0 (l0.length : Int) (wrap64 (x27_2 + 1))))))) = some (r1, r2, r3, r4) := H
                    have A14 := Aside0.mk A140
                    clear A140
                    by_cases c15 : t115 = true
                    · subst c15
                      have H1 : (some (([] : List Int), 0, 21, x27_2)) = some (r1, r2, r3, r4) := by rw [if_pos rfl] at H; exact H
                      clear H
                      have H := H1
                      clear H1
                      simp only [Option.some.injEq, Prod.mk.injEq] at H
                      obtain ⟨rfl, rfl, rfl, rfl⟩ := H
                      have p113 : 0 ≤ (x27_2 : Int) := of_decide_eq_true (by first | (with_reducible assumption) | assumption)
                      have q113 : x27_2 < (l0.length : Int) := of_decide_eq_true (by first | (with_reducible assumption) | assumption)
                      obtain ⟨ad113, e113, hx113_0⟩ := Kd.at_flt HR0.out x27_2 p113 q113
                      cases e113
                      replace hx113_0 := (HB.out.cell (World.block_lt_of_cell? w _ hx113_0)).trans hx113_0
                      replace p113 := eq_true p113
                      replace q113 := eq_true q113
                      go_wp2_with (first | ((with_reducible refine gate_callee (f := 17) rfl ?_); refine goesL_ (some 34) rfl rfl Tryd.func17 (by kernel_rfl) rfl #[.float .f64 (rdOf (0 : Nat) l0 x27_2)] rfl (by (try simp only [List.map_toArray, List.map_cons, List.map_nil]); first | done | rfl | (simp only [List.length_drop, List.length_take]; rfl)) ?_; (with_reducible refine (math_IsNaN.calls (rdOf (0 : Nat) l0 x27_2) false _ A11.out).mono ?_); rintro e w' ⟨rfl, ⟨nd, rfl⟩⟩; refine ⟨_, rfl, ?_⟩; (try (rw [drewN_self wr]; generalize hq_ : World.drewN wr _ = wr; have n0_ : Aside0 (wr.heap[gb112]? = some (.cells #[.int .i64 x113000_2, .int .i64 x113001_2] 27 (0, 0))) := ⟨by rw [← hq_]; exact (by (with_reducible repeat (first | refine blk_drewN ?_ _ | refine blk_drew ?_ | refine blk_alloc ?_ _)); exact BK112.out)⟩; have n1_ : Aside0 (Below w.heap.size w wr) := ⟨by rw [← hq_]; exact (by repeat (first | (with_reducible first | exact HB.out | apply below_alloc | apply pw_below_drewN | apply below_drew1 | refine below_set ?_ GE112.out) | exact HB.out))⟩; clear BK112 HB hq_; have BK112 := n0_; have HB := n1_; clear n0_ n1_))) | ((with_reducible refine gate_callee (f := 18) rfl ?_); refine goesL_ (some 39) rfl rfl Tryd.func18 (by kernel_rfl) rfl #[.float .f64 (rdOf (0 : Nat) l0 x27_2), .int .i64 0] rfl (by (try simp only [List.map_toArray, List.map_cons, List.map_nil]); first | done | rfl | (simp only [List.length_drop, List.length_take]; rfl)) ?_; (with_reducible refine (math_IsInf.calls (rdOf (0 : Nat) l0 x27_2) 0 true _ A14.out).mono ?_); rintro e w' ⟨rfl, ⟨nd, rfl⟩⟩; refine ⟨_, rfl, ?_⟩; (try (rw [drewN_self wr]; generalize hq_ : World.drewN wr _ = wr; have n0_ : Aside0 (wr.heap[gb112]? = some (.cells #[.int .i64 x113000_2, .int .i64 x113001_2] 27 (0, 0))) := ⟨by rw [← hq_]; exact (by (with_reducible repeat (first | refine blk_drewN ?_ _ | refine blk_drew ?_ | refine blk_alloc ?_ _)); exact BK112.out)⟩; have n1_ : Aside0 (Below w.heap.size w wr) := ⟨by rw [← hq_]; exact (by repeat (first | (with_reducible first | exact HB.out | apply below_alloc | apply pw_below_drewN | apply below_drew1 | refine below_set ?_ GE112.out) | exact HB.out))⟩; clear BK112 HB hq_; have BK112 := n0_; have HB := n1_; clear n0_ n1_)); have hcz16_0 : wr.cell? ⟨gb112, 0, none⟩ = some (.int .i64 x113000_2) := (blk_cell BK112.out 0).trans rfl; have hcz16_1 : wr.cell? ⟨gb112, 1, none⟩ = some (.int .i64 x113001_2) := (blk_cell BK112.out 1).trans rfl; have hfz16_0 := blk_frozen BK112.out 0; have hfz16_1 := blk_frozen BK112.out 1))
                      refine bodyPost_ret (results_list (rs := [.tmp 4, .tmp 5, .cell 6 27]) rfl (by simp) (.tmp (.tmp (.cell gb112 27 #[.int .i64 21, .int .i64 x27_2] (0, 0) _ rfl (by (with_reducible repeat (first | refine blk_drewN ?_ _ | refine blk_drew ?_ | refine blk_alloc ?_ _)); refine blk_put (cs := #[.int .i64 21, .int .i64 x113001_2]) ?_ 1 _ rfl; (with_reducible repeat (first | refine blk_drewN ?_ _ | refine blk_drew ?_ | refine blk_alloc ?_ _)); refine blk_put (cs := #[.int .i64 x113000_2, .int .i64 x113001_2]) ?_ 0 _ rfl; (with_reducible repeat (first | refine blk_drewN ?_ _ | refine blk_drew ?_ | refine blk_alloc ?_ _)); exact BK112.out) Tryd.underlying27 rfl (by kernel_rfl) .nil)))) rfl ?_
                      exact ⟨_, by first | rfl | (simp [errW_none, errW_some] <;> rfl) | (simp [*, errW_none, errW_some] <;> rfl), by first | exact Kd.R_nil _ _ _ _ _ | exact Kd.N_nil _ _ _ _ _ | exact Kd.V_nil _ _ _ _ _ | exact Kd.Q_nil _ _ _ _ _ | exact Kd.S_nil _ _ _ _ _, by repeat (first | (with_reducible first | exact HB.out | apply below_alloc | apply pw_below_drewN | apply below_drew1 | refine below_set ?_ GE112.out) | exact HB.out)⟩
                    · replace c15 := Bool.eq_false_iff.mpr c15
                      subst c15
                      have H1 : (if (Go.FloatKind.f64.format.order (rdOf (0 : Nat) l0 x27_2) 0 == some .eq) = true then (scale_Admit.l0 k2 l0 a1 x7_2 x8_2 l0 (l0.length : Int) (wrap64 (x27_2 + 1))) else ((scale_parts.f k2 (rdOf (0 : Nat) l0 x27_2)).bind fun bt116 => (if x8_2 = true then (if bt116.2 < x7_2 then (scale_Admit.l0 k2 l0 a1 bt116.2 true l0 (l0.length : Int) (wrap64 (x27_2 + 1))) else (scale_Admit.l0 k2 l0 a1 x7_2 x8_2 l0 (l0.length : Int) (wrap64 (x27_2 + 1)))) else (scale_Admit.l0 k2 l0 a1 bt116.2 true l0 (l0.length : Int) (wrap64 (x27_2 + 1)))))) = some (r1, r2, r3, r4) := by rw [if_neg (show ¬ (false = true) by decide)] at H; exact H
                      clear H
                      have H := H1
                      clear H1
                      by_cases c17 : (Go.FloatKind.f64.format.order (rdOf (0 : Nat) l0 x27_2) 0 == some .eq) = true
                      · rw [if_pos c17] at H
                        have c17b0 : (Go.FloatKind.f64.format.order (rdOf (0 : Nat) l0 x27_2) 0 == some .eq) = true := c17
                        (try (have c17b1 : decide (Go.FloatKind.f64.format.order (rdOf (0 : Nat) l0 x27_2) 0 = some .eq) = true := by simpa using c17))
                        (try (have c17b2 : (Go.FloatKind.f64.format.order (rdOf (0 : Nat) l0 x27_2) 0 == some .eq) = true := by simpa using c17))
                        clear c17
                        have H' := Aside0.mk H
                        clear H
                        have p113 : 0 ≤ (x27_2 : Int) := of_decide_eq_true (by first | (with_reducible assumption) | assumption)
                        have q113 : x27_2 < (l0.length : Int) := of_decide_eq_true (by first | (with_reducible assumption) | assumption)
                        obtain ⟨ad113, e113, hx113_0⟩ := Kd.at_flt HR0.out x27_2 p113 q113
                        cases e113
                        replace hx113_0 := (HB.out.cell (World.block_lt_of_cell? w _ hx113_0)).trans hx113_0
                        replace p113 := eq_true p113
                        replace q113 := eq_true q113
                        go_wp2_with (first | ((with_reducible refine gate_callee (f := 17) rfl ?_); refine goesL_ (some 34) rfl rfl Tryd.func17 (by kernel_rfl) rfl #[.float .f64 (rdOf (0 : Nat) l0 x27_2)] rfl (by (try simp only [List.map_toArray, List.map_cons, List.map_nil]); first | done | rfl | (simp only [List.length_drop, List.length_take]; rfl)) ?_; (with_reducible refine (math_IsNaN.calls (rdOf (0 : Nat) l0 x27_2) false _ A11.out).mono ?_); rintro e w' ⟨rfl, ⟨nd, rfl⟩⟩; refine ⟨_, rfl, ?_⟩) | ((with_reducible refine gate_callee (f := 18) rfl ?_); refine goesL_ (some 39) rfl rfl Tryd.func18 (by kernel_rfl) rfl #[.float .f64 (rdOf (0 : Nat) l0 x27_2), .int .i64 0] rfl (by (try simp only [List.map_toArray, List.map_cons, List.map_nil]); first | done | rfl | (simp only [List.length_drop, List.length_take]; rfl)) ?_; (with_reducible refine (math_IsInf.calls (rdOf (0 : Nat) l0 x27_2) 0 false _ A14.out).mono ?_); rintro e w' ⟨rfl, ⟨nd, rfl⟩⟩; refine ⟨_, rfl, ?_⟩))
                        go_roundg k2
                        case measure => have := HJ2.out; have := HK2.out; omega
                        case rel => exact ⟨(x7_2), (x8_2), (wrap64 (x27_2 + 1)), (x113000_2), (x113001_2), (by first | rfl | (simp; done) | (simp [*]; done)), (by first | rfl | (simp; done) | (simp [*]; done)), (by first | rfl | (simp; done) | (simp [*]; done)), H', ⟨by have := HJ2.out; have := HK2.out; omega⟩, ⟨by (with_reducible repeat (first | refine blk_drewN ?_ _ | refine blk_drew ?_ | refine blk_alloc ?_ _)); exact BK112.out⟩, ⟨by repeat (first | (with_reducible first | exact HB.out | apply below_alloc | apply pw_below_drewN | apply below_drew1 | refine below_set ?_ GE112.out) | exact HB.out)⟩⟩
                      · rw [if_neg c17] at H
                        have c17b0 : (Go.FloatKind.f64.format.order (rdOf (0 : Nat) l0 x27_2) 0 == some .eq) = false := by simpa using c17
                        (try (have c17b1 : decide (Go.FloatKind.f64.format.order (rdOf (0 : Nat) l0 x27_2) 0 = some .eq) = false := by simpa using c17))
                        (try (have c17b2 : (Go.FloatKind.f64.format.order (rdOf (0 : Nat) l0 x27_2) 0 == some .eq) = false := by simpa using c17))
                        (try (have c17b3 : ¬ (Go.FloatKind.f64.format.order (rdOf (0 : Nat) l0 x27_2) 0 = some .eq) := by simpa using c17))
                        clear c17
                        replace H := Option.bind_eq_some_iff.mp H
                        obtain ⟨⟨t116, t117⟩, A180, H⟩ := H
                        replace H : (if x8_2 = true then (if t117 < x7_2 then (scale_Admit.l0 k2 l0 a1 t117 true l0 (l0.length : Int) (wrap64 (x27_2 + 1))) else (scale_Admit.l0 k2 l0 a1 x7_2 x8_2 l0 (l0.length : Int) (wrap64 (x27_2 + 1)))) else (scale_Admit.l0 k2 l0 a1 t117 true l0 (l0.length : Int) (wrap64 (x27_2 + 1)))) = some (r1, r2, r3, r4) := H
                        have A18 := Aside0.mk A180
                        clear A180
                        by_cases c19 : x8_2 = true
                        · subst c19
                          have H1 : (if t117 < x7_2 then (scale_Admit.l0 k2 l0 a1 t117 true l0 (l0.length : Int) (wrap64 (x27_2 + 1))) else (scale_Admit.l0 k2 l0 a1 x7_2 true l0 (l0.length : Int) (wrap64 (x27_2 + 1)))) = some (r1, r2, r3, r4) := by rw [if_pos rfl] at H; exact H
                          clear H
                          have H := H1
                          clear H1
                          by_cases c20 : t117 < x7_2
                          · rw [if_pos c20] at H
                            have c20b0 : decide (t117 < x7_2) = true := decide_eq_true c20
                            clear c20
                            have H' := Aside0.mk H
                            clear H
                            have p113 : 0 ≤ (x27_2 : Int) := of_decide_eq_true (by first | (with_reducible assumption) | assumption)
                            have q113 : x27_2 < (l0.length : Int) := of_decide_eq_true (by first | (with_reducible assumption) | assumption)
                            obtain ⟨ad113, e113, hx113_0⟩ := Kd.at_flt HR0.out x27_2 p113 q113
                            cases e113
                            replace hx113_0 := (HB.out.cell (World.block_lt_of_cell? w _ hx113_0)).trans hx113_0
                            replace p113 := eq_true p113
                            replace q113 := eq_true q113
                            go_wp2_with (first | ((with_reducible refine gate_callee (f := 17) rfl ?_); refine goesL_ (some 34) rfl rfl Tryd.func17 (by kernel_rfl) rfl #[.float .f64 (rdOf (0 : Nat) l0 x27_2)] rfl (by (try simp only [List.map_toArray, List.map_cons, List.map_nil]); first | done | rfl | (simp only [List.length_drop, List.length_take]; rfl)) ?_; (with_reducible refine (math_IsNaN.calls (rdOf (0 : Nat) l0 x27_2) false _ A11.out).mono ?_); rintro e w' ⟨rfl, ⟨nd, rfl⟩⟩; refine ⟨_, rfl, ?_⟩) | ((with_reducible refine gate_callee (f := 18) rfl ?_); refine goesL_ (some 39) rfl rfl Tryd.func18 (by kernel_rfl) rfl #[.float .f64 (rdOf (0 : Nat) l0 x27_2), .int .i64 0] rfl (by (try simp only [List.map_toArray, List.map_cons, List.map_nil]); first | done | rfl | (simp only [List.length_drop, List.length_take]; rfl)) ?_; (with_reducible refine (math_IsInf.calls (rdOf (0 : Nat) l0 x27_2) 0 false _ A14.out).mono ?_); rintro e w' ⟨rfl, ⟨nd, rfl⟩⟩; refine ⟨_, rfl, ?_⟩) | ((with_reducible refine gate_callee (f := 19) rfl ?_); refine goesL_ (some 47) rfl rfl Tryd.func19 (by kernel_rfl) rfl #[.float .f64 (rdOf (0 : Nat) l0 x27_2)] rfl (by (try simp only [List.map_toArray, List.map_cons, List.map_nil]); first | done | rfl | (simp only [List.length_drop, List.length_take]; rfl)) ?_; (with_reducible refine (scale_parts.calls k2 (rdOf (0 : Nat) l0 x27_2) t116 t117 _ A18.out).mono ?_); rintro e w' ⟨rfl, ⟨nd, rfl⟩⟩; refine ⟨_, rfl, ?_⟩))
                            go_roundg k2
                            case measure => have := HJ2.out; have := HK2.out; omega
                            case rel => exact ⟨(t117), (true), (wrap64 (x27_2 + 1)), (x113000_2), (x113001_2), (by first | rfl | (simp; done) | (simp [*]; done)), (by first | rfl | (simp; done) | (simp [*]; done)), (by first | rfl | (simp; done) | (simp [*]; done)), H', ⟨by have := HJ2.out; have := HK2.out; omega⟩, ⟨by (with_reducible repeat (first | refine blk_drewN ?_ _ | refine blk_drew ?_ | refine blk_alloc ?_ _)); exact BK112.out⟩, ⟨by repeat (first | (with_reducible first | exact HB.out | apply below_alloc | apply pw_below_drewN | apply below_drew1 | refine below_set ?_ GE112.out) | exact HB.out)⟩⟩
                          · rw [if_neg c20] at H
                            have c20b0 : decide (t117 < x7_2) = false := decide_eq_false c20
                            clear c20
                            have H' := Aside0.mk H
                            clear H
                            have p113 : 0 ≤ (x27_2 : Int) := of_decide_eq_true (by first | (with_reducible assumption) | assumption)
                            have q113 : x27_2 < (l0.length : Int) := of_decide_eq_true (by first | (with_reducible assumption) | assumption)
                            obtain ⟨ad113, e113, hx113_0⟩ := Kd.at_flt HR0.out x27_2 p113 q113
                            cases e113
                            replace hx113_0 := (HB.out.cell (World.block_lt_of_cell? w _ hx113_0)).trans hx113_0
                            replace p113 := eq_true p113
                            replace q113 := eq_true q113
                            go_wp2_with (first | ((with_reducible refine gate_callee (f := 17) rfl ?_); refine goesL_ (some 34) rfl rfl Tryd.func17 (by kernel_rfl) rfl #[.float .f64 (rdOf (0 : Nat) l0 x27_2)] rfl (by (try simp only [List.map_toArray, List.map_cons, List.map_nil]); first | done | rfl | (simp only [List.length_drop, List.length_take]; rfl)) ?_; (with_reducible refine (math_IsNaN.calls (rdOf (0 : Nat) l0 x27_2) false _ A11.out).mono ?_); rintro e w' ⟨rfl, ⟨nd, rfl⟩⟩; refine ⟨_, rfl, ?_⟩) | ((with_reducible refine gate_callee (f := 18) rfl ?_); refine goesL_ (some 39) rfl rfl Tryd.func18 (by kernel_rfl) rfl #[.float .f64 (rdOf (0 : Nat) l0 x27_2), .int .i64 0] rfl (by (try simp only [List.map_toArray, List.map_cons, List.map_nil]); first | done | rfl | (simp only [List.length_drop, List.length_take]; rfl)) ?_; (with_reducible refine (math_IsInf.calls (rdOf (0 : Nat) l0 x27_2) 0 false _ A14.out).mono ?_); rintro e w' ⟨rfl, ⟨nd, rfl⟩⟩; refine ⟨_, rfl, ?_⟩) | ((with_reducible refine gate_callee (f := 19) rfl ?_); refine goesL_ (some 47) rfl rfl Tryd.func19 (by kernel_rfl) rfl #[.float .f64 (rdOf (0 : Nat) l0 x27_2)] rfl (by (try simp only [List.map_toArray, List.map_cons, List.map_nil]); first | done | rfl | (simp only [List.length_drop, List.length_take]; rfl)) ?_; (with_reducible refine (scale_parts.calls k2 (rdOf (0 : Nat) l0 x27_2) t116 t117 _ A18.out).mono ?_); rintro e w' ⟨rfl, ⟨nd, rfl⟩⟩; refine ⟨_, rfl, ?_⟩))
                            go_roundg k2
                            case measure => have := HJ2.out; have := HK2.out; omega
                            case rel => exact ⟨(x7_2), (true), (wrap64 (x27_2 + 1)), (x113000_2), (x113001_2), (by first | rfl | (simp; done) | (simp [*]; done)), (by first | rfl | (simp; done) | (simp [*]; done)), (by first | rfl | (simp; done) | (simp [*]; done)), H', ⟨by have := HJ2.out; have := HK2.out; omega⟩, ⟨by (with_reducible repeat (first | refine blk_drewN ?_ _ | refine blk_drew ?_ | refine blk_alloc ?_ _)); exact BK112.out⟩, ⟨by repeat (first | (with_reducible first | exact HB.out | apply below_alloc | apply pw_below_drewN | apply below_drew1 | refine below_set ?_ GE112.out) | exact HB.out)⟩⟩
                        · replace c19 := Bool.eq_false_iff.mpr c19
                          subst c19
                          have H1 : (scale_Admit.l0 k2 l0 a1 t117 true l0 (l0.length : Int) (wrap64 (x27_2 + 1))) = some (r1, r2, r3, r4) := by rw [if_neg (show ¬ (false = true) by decide)] at H; exact H
                          clear H
                          have H := H1
                          clear H1
                          have H' := Aside0.mk H
                          clear H
                          have p113 : 0 ≤ (x27_2 : Int) := of_decide_eq_true (by first | (with_reducible assumption) | assumption)
                          have q113 : x27_2 < (l0.length : Int) := of_decide_eq_true (by first | (with_reducible assumption) | assumption)
                          obtain ⟨ad113, e113, hx113_0⟩ := Kd.at_flt HR0.out x27_2 p113 q113
                          cases e113
                          replace hx113_0 := (HB.out.cell (World.block_lt_of_cell? w _ hx113_0)).trans hx113_0
                          replace p113 := eq_true p113
                          replace q113 := eq_true q113
                          go_wp2_with (first | ((with_reducible refine gate_callee (f := 17) rfl ?_); refine goesL_ (some 34) rfl rfl Tryd.func17 (by kernel_rfl) rfl #[.float .f64 (rdOf (0 : Nat) l0 x27_2)] rfl (by (try simp only [List.map_toArray, List.map_cons, List.map_nil]); first | done | rfl | (simp only [List.length_drop, List.length_take]; rfl)) ?_; (with_reducible refine (math_IsNaN.calls (rdOf (0 : Nat) l0 x27_2) false _ A11.out).mono ?_); rintro e w' ⟨rfl, ⟨nd, rfl⟩⟩; refine ⟨_, rfl, ?_⟩) | ((with_reducible refine gate_callee (f := 18) rfl ?_); refine goesL_ (some 39) rfl rfl Tryd.func18 (by kernel_rfl) rfl #[.float .f64 (rdOf (0 : Nat) l0 x27_2), .int .i64 0] rfl (by (try simp only [List.map_toArray, List.map_cons, List.map_nil]); first | done | rfl | (simp only [List.length_drop, List.length_take]; rfl)) ?_; (with_reducible refine (math_IsInf.calls (rdOf (0 : Nat) l0 x27_2) 0 false _ A14.out).mono ?_); rintro e w' ⟨rfl, ⟨nd, rfl⟩⟩; refine ⟨_, rfl, ?_⟩) | ((with_reducible refine gate_callee (f := 19) rfl ?_); refine goesL_ (some 47) rfl rfl Tryd.func19 (by kernel_rfl) rfl #[.float .f64 (rdOf (0 : Nat) l0 x27_2)] rfl (by (try simp only [List.map_toArray, List.map_cons, List.map_nil]); first | done | rfl | (simp only [List.length_drop, List.length_take]; rfl)) ?_; (with_reducible refine (scale_parts.calls k2 (rdOf (0 : Nat) l0 x27_2) t116 t117 _ A18.out).mono ?_); rintro e w' ⟨rfl, ⟨nd, rfl⟩⟩; refine ⟨_, rfl, ?_⟩))
                          go_roundg k2
                          case measure => have := HJ2.out; have := HK2.out; omega
                          case rel => exact ⟨(t117), (true), (wrap64 (x27_2 + 1)), (x113000_2), (x113001_2), (by first | rfl | (simp; done) | (simp [*]; done)), (by first | rfl | (simp; done) | (simp [*]; done)), (by first | rfl | (simp; done) | (simp [*]; done)), H', ⟨by have := HJ2.out; have := HK2.out; omega⟩, ⟨by (with_reducible repeat (first | refine blk_drewN ?_ _ | refine blk_drew ?_ | refine blk_alloc ?_ _)); exact BK112.out⟩, ⟨by repeat (first | (with_reducible first | exact HB.out | apply below_alloc | apply pw_below_drewN | apply below_drew1 | refine below_set ?_ GE112.out) | exact HB.out)⟩⟩
                · rw [if_neg c10] at H
                  exact absurd H (by simp)
              · rw [if_neg c9] at H
                exact absurd H (by simp)
            · rw [if_neg c8] at H
              have c8b0 : decide (x27_2 < (l0.length : Int)) = false := decide_eq_false c8
              clear c8
              by_cases c21 : 0 ≤ (l0.length : Int)
              · rw [if_pos c21] at H
                have c21b0 := eq_true c21
                have c21b1 : decide (0 ≤ (l0.length : Int)) = true := decide_eq_true c21
                clear c21
                by_cases c22 : ((l0.length : Int) : Int).toNat ≤ 35184372088832
                · rw [if_pos c22] at H
                  have c22b0 := eq_true c22
                  have c22b1 : decide (((l0.length : Int) : Int).toNat ≤ 35184372088832) = true := decide_eq_true c22
                  clear c22
                  obtain ⟨y118, hy118⟩ : ∃ y_ : List Int, y_ = (([] : List Int)) := ⟨_, rfl⟩
                  replace H : (scale_Admit.l1 k2 a1 x7_2 y118 l0 (l0.length : Int) 0) = some (r1, r2, r3, r4) := by first | (rw [hy118]; with_reducible exact H) | (have H2_ := (Option.bind_some _ _).symm.trans H; rw [hy118]; with_reducible exact H2_) | (have H2_ := (Option.bind_some _ _).symm.trans H; with_reducible exact H2_) | with_reducible exact H | (rw [hy118]; exact H) | exact H
                  have Ny118 := Aside0.mk hy118
                  clear hy118
                  have H' := Aside0.mk H
                  clear H
                  go_wp2_with (first | ((with_reducible refine gate_dst (N := 61) rfl ?_); refine Kd.R_make0 (Kd.int .i64) _ 2 rfl (N := 61) rfl 24 _ _ rfl (l0.length : Int) rfl rfl Tryd.underlying24 (.int .i64 0) 8 info2 rfl (by decide) (by omega) 0 (ok := fun _ => True) (okp := fun _ => True) rfl (fun _ hk => hk) trivial (of_decide_eq_true (by first | (with_reducible assumption) | assumption)) (Nat.le_trans (Nat.mul_le_mul_right _ (of_decide_eq_true (by first | (with_reducible assumption) | assumption) : (l0.length : Int).toNat ≤ 35184372088832)) (by omega)) (Below.refl _ _) (Nat.le_refl _) ?_; intro v119 w23 ho24 hb hg_ hnew_; clear hg_ hnew_; (first | rw [← Ny118.out] at ho24 | (simp only [Int.reduceToNat] at ho24; rw [← Ny118.out] at ho24)); have n0_ := Aside0.mk (Kd.R_lower ho24 (below_size (by repeat (first | (with_reducible first | exact HB.out | apply below_alloc | apply pw_below_drewN | apply below_drew1 | refine below_set ?_ GE112.out) | exact HB.out)))); have n1_ := Aside0.mk (blk_below (g := gb112) (o := .cells #[.int .i64 x113000_2, .int .i64 x113001_2] 27 (0, 0)) (by (with_reducible repeat (first | refine blk_drewN ?_ _ | refine blk_drew ?_ | refine blk_alloc ?_ _)); exact BK112.out) hb); have n2_ := Aside0.mk (below_step (by repeat (first | (with_reducible first | exact HB.out | apply below_alloc | apply pw_below_drewN | apply below_drew1 | refine below_set ?_ GE112.out) | exact HB.out)) hb); clear BK112; clear HB; have HO120 := n0_; have BK112 := n1_; have HB := n2_; clear n0_ n1_ n2_; clear hb ho24))
                  go_loopg [13, 64] k2 (fun kq v13 v64 w' => ∃ (x13_3 : List Int) (x64_3 : Int) (x113000_3 : Int) (x113001_3 : Int), v64 = .int .i64 x64_3 ∧ Aside0 (scale_Admit.l1 kq a1 x7_2 x13_3 l0 (l0.length : Int) x64_3 = some (r1, r2, r3, r4)) ∧ Aside0 (kq ≤ k2) ∧ Aside0 (Kd.R (Kd.int .i64) 2 w' w.heap.size (fun _ => True) v13 x13_3) ∧ Aside0 (w'.heap[gb112]? = some (.cells #[.int .i64 x113000_3, .int .i64 x113001_3] 27 (0, 0))) ∧ Aside0 (Below w.heap.size w w'))
                  case atStart => exact ⟨(y118), (0), (x113000_2), (x113001_2), (by first | rfl | (simp; done) | (simp [*]; done)), H', ⟨Nat.le_refl _⟩, ⟨by (with_reducible repeat (first | apply Kd.R_alloc | apply Kd.R_drewN | apply Kd.R_drew)); exact HO120.out⟩, ⟨by (with_reducible repeat (first | refine blk_drewN ?_ _ | refine blk_drew ?_ | refine blk_alloc ?_ _)); exact BK112.out⟩, ⟨by repeat (first | (with_reducible first | exact HB.out | apply below_alloc | apply pw_below_drewN | apply below_drew1 | refine below_set ?_ GE112.out) | exact HB.out)⟩⟩
                  case round =>
                    clear H'
                    try clear c1
                    try clear p1
                    try clear q1
                    try clear hx1
                    try clear c2
                    try clear p2
                    try clear c5
                    try clear c5b0
                    try clear c6
                    try clear p6
                    try clear c8
                    try clear c8b0
                    try clear c9
                    try clear c9b0
                    try clear c10
                    try clear c10b0
                    try clear p11
                    try clear q11
                    try clear hx11
                    try clear c12
                    try clear c15
                    try clear c17
                    try clear c17b0
                    try clear c17b1
                    try clear c17b2
                    try clear c18
                    try clear c19
                    try clear c20
                    try clear c20b0
                    try clear c21
                    try clear c21b0
                    try clear c21b1
                    try clear c22
                    try clear c22b0
                    try clear c22b1
                    try clear hcz13_0
                    try clear hcz13_1
                    try clear hcz16_0
                    try clear hcz16_1
                    try clear hcz7_0
                    try clear hcz7_1
                    try clear hfz13_0
                    try clear hfz13_1
                    try clear hfz16_0
                    try clear hfz16_1
                    try clear hfz7_0
                    try clear hfz7_1
                    try clear hx113_0
                    try clear p113
                    try clear p2
                    try clear q113
                    obtain ⟨x13_3, x64_3, x113000_3, x113001_3, rfl, HA, HK3, HO_13, BK112, HB⟩ := hrel
                    cases gk with
                    | zero => exact absurd HA.out (by simp [scale_Admit.l1])
                    | succ k3 =>
                      have H := HA.out
                      clear HA
                      simp only [scale_Admit.l1] at H
                      by_cases c25 : x64_3 < (l0.length : Int)
                      · rw [if_pos c25] at H
                        have c25b0 : decide (x64_3 < (l0.length : Int)) = true := decide_eq_true c25
                        clear c25
                        by_cases c26 : 0 ≤ x64_3
                        · rw [if_pos c26] at H
                          have c26b0 : decide (0 ≤ x64_3) = true := decide_eq_true c26
                          clear c26
                          by_cases c27 : x64_3 < (l0.length : Int)
                          · rw [if_pos c27] at H
                            have c27b0 : decide (x64_3 < (l0.length : Int)) = true := decide_eq_true c27
                            clear c27
                            replace H := Option.bind_eq_some_iff.mp H
                            obtain ⟨⟨t122, t123⟩, A280, H⟩ := H
                            replace H : (if t122 = 0 then (scale_Admit.j3 k3 a1 x7_2 x13_3 x64_3 t122 t123 l0 (l0.length : Int) x64_3 false) else (scale_Admit.j3 k3 a1 x7_2 x13_3 x64_3 t122 t123 l0 (l0.length : Int) x64_3 (decide ((wrap64 (t123 - x7_2)) > 53)))) = some (r1, r2, r3, r4) := H
                            have A28 := Aside0.mk A280
                            clear A280
                            have HC29 := Aside0.mk H
                            clear H
                            have p121 : 0 ≤ (x64_3 : Int) := of_decide_eq_true (by first | (with_reducible assumption) | assumption)
                            have q121 : x64_3 < (l0.length : Int) := of_decide_eq_true (by first | (with_reducible assumption) | assumption)
                            obtain ⟨ad121, e121, hx121_0⟩ := Kd.at_flt HR0.out x64_3 p121 q121
                            cases e121
                            replace hx121_0 := (HB.out.cell (World.block_lt_of_cell? w _ hx121_0)).trans hx121_0
                            replace p121 := eq_true p121
                            replace q121 := eq_true q121
                            go_upto_region 21 with (first | ((with_reducible refine gate_callee (f := 19) rfl ?_); refine goesL_ (some 71) rfl rfl Tryd.func19 (by kernel_rfl) rfl #[.float .f64 (rdOf (0 : Nat) l0 x64_3)] rfl (by (try simp only [List.map_toArray, List.map_cons, List.map_nil]); first | done | rfl | (simp only [List.length_drop, List.length_take]; rfl)) ?_; (with_reducible refine (scale_parts.calls k3 (rdOf (0 : Nat) l0 x64_3) t122 t123 _ A28.out).mono ?_); rintro e w' ⟨rfl, ⟨nd, rfl⟩⟩; refine ⟨_, rfl, ?_⟩))
                            (try simp only [Act.put, List.setIfInBounds_toArray, List.set_cons_zero, List.set_cons_succ])
                            go_cut [81] (fun v81 wc => ∃ (kq : Nat) (x81_28 : Bool), v81 = .bool x81_28 ∧ Aside0 (scale_Admit.j3 kq a1 x7_2 x13_3 x64_3 t122 t123 l0 (l0.length : Int) x64_3 x81_28 = some (r1, r2, r3, r4)) ∧ Aside0 (kq ≤ k3) ∧ Aside0 (Kd.R (Kd.int .i64) 2 wc w.heap.size (fun _ => True) u13 x13_3) ∧ Aside0 (wc.heap[gb112]? = some (.cells #[.int .i64 x113000_3, .int .i64 x113001_3] 27 (0, 0))) ∧ Aside0 (Below w.heap.size w wc))
                            case first =>
                              have H := HC29.out
                              clear HC29
                              by_cases c30 : t122 = 0
                              · rw [if_pos c30] at H
                                have c30b0 : (t122 == 0) = true := beq_iff_eq.mpr c30
                                have c30b1 : (t122 != 0) = false := bne_eq_false_iff_eq.mpr c30
                                clear c30
                                (first | rw [c30b0] | (simp only [i64_w, i32_w]; rw [c30b0]) | skip)
                                have H' := Aside0.mk H
                                clear H
                                go_wp2
                                go_meet
                                case rel => exact ⟨_, (false), (by first | rfl | (simp; done) | (simp [*]; done)), H', ⟨by have := HJ2.out; have := HK2.out; have := HK3.out; first | omega | exact Nat.le_refl _⟩, ⟨by (with_reducible repeat (first | apply Kd.R_alloc | apply Kd.R_drewN | apply Kd.R_drew)); exact HO_13.out⟩, ⟨by (with_reducible repeat (first | refine blk_drewN ?_ _ | refine blk_drew ?_ | refine blk_alloc ?_ _)); exact BK112.out⟩, ⟨by repeat (first | (with_reducible first | exact HB.out | apply below_alloc | apply pw_below_drewN | apply below_drew1 | refine below_set ?_ GE112.out) | exact HB.out)⟩⟩
                              · rw [if_neg c30] at H
                                have c30b0 : (t122 == 0) = false := beq_eq_false_iff_ne.mpr c30
                                have c30b1 : (t122 != 0) = true := bne_iff_ne.mpr c30
                                (first | rw [c30b0] | (simp only [i64_w, i32_w]; rw [c30b0]) | skip)
                                have H' := Aside0.mk H
                                clear H
                                go_wp2
                                go_meet
                                case rel => exact ⟨_, (decide ((wrap64 (t123 - x7_2)) > 53)), (by first | rfl | (simp; done) | (simp [*]; done)), H', ⟨by have := HJ2.out; have := HK2.out; have := HK3.out; first | omega | exact Nat.le_refl _⟩, ⟨by (with_reducible repeat (first | apply Kd.R_alloc | apply Kd.R_drewN | apply Kd.R_drew)); exact HO_13.out⟩, ⟨by (with_reducible repeat (first | refine blk_drewN ?_ _ | refine blk_drew ?_ | refine blk_alloc ?_ _)); exact BK112.out⟩, ⟨by repeat (first | (with_reducible first | exact HB.out | apply below_alloc | apply pw_below_drewN | apply below_drew1 | refine below_set ?_ GE112.out) | exact HB.out)⟩⟩
                            case rest =>
                              clear HC29
                              try clear c1
                              try clear p1
                              try clear q1
                              try clear hx1
                              try clear c2
                              try clear p2
                              try clear c3
                              try clear c5
                              try clear c5b0
                              try clear c6
                              try clear p6
                              try clear c8
                              try clear c8b0
                              try clear c9
                              try clear c9b0
                              try clear c10
                              try clear c10b0
                              try clear p11
                              try clear q11
                              try clear hx11
                              try clear c12
                              try clear p12
                              try clear q12
                              try clear hx12
                              try clear c15
                              try clear c17
                              try clear c17b0
                              try clear c17b1
                              try clear c17b2
                              try clear c18
                              try clear c19
                              try clear c20
                              try clear c20b0
                              try clear c21
                              try clear c21b0
                              try clear c21b1
                              try clear c22
                              try clear c22b0
                              try clear c22b1
                              try clear c25
                              try clear c25b0
                              try clear c26
                              try clear c26b0
                              try clear c27
                              try clear c27b0
                              try clear c30
                              try clear c30b0
                              try clear c30b1
                              try clear hcz13_0
                              try clear hcz13_1
                              try clear hcz16_0
                              try clear hcz16_1
                              try clear hcz7_0
                              try clear hcz7_1
                              try clear hfz13_0
                              try clear hfz13_1
                              try clear hfz16_0
                              try clear hfz16_1
                              try clear hfz7_0
                              try clear hfz7_1
                              try clear hx113_0
                              try clear hx121_0
                              try clear p1
                              try clear p11
                              try clear p113
                              try clear p121
                              try clear p2
                              try clear p6
                              try clear q1
                              try clear q11
                              try clear q113
                              try clear q121
                              obtain ⟨kq, x81_28, rfl, HA, HJ28, HO_13, BK112, HB⟩ := hcut
                              cases kq with
                              | zero => exact absurd HA.out (by simp [scale_Admit.j3])
                              | succ kj28 =>
                                have H := HA.out
                                clear HA
                                simp only [scale_Admit.j3] at H
                                by_cases c31 : x81_28 = true
                                · subst c31
                                  have H1 : (some (([] : List Int), 0, 22, x64_3)) = some (r1, r2, r3, r4) := by rw [if_pos rfl] at H; exact H
                                  clear H
                                  have H := H1
                                  clear H1
                                  simp only [Option.some.injEq, Prod.mk.injEq] at H
                                  obtain ⟨rfl, rfl, rfl, rfl⟩ := H
                                  have hcz32_0 : wc.cell? ⟨gb112, 0, none⟩ = some (.int .i64 x113000_3) := (blk_cell BK112.out 0).trans rfl
                                  have hcz32_1 : wc.cell? ⟨gb112, 1, none⟩ = some (.int .i64 x113001_3) := (blk_cell BK112.out 1).trans rfl
                                  have hfz32_0 := blk_frozen BK112.out 0
                                  have hfz32_1 := blk_frozen BK112.out 1
                                  go_wp2
                                  refine bodyPost_ret (results_list (rs := [.tmp 4, .tmp 5, .cell 6 27]) rfl (by simp) (.tmp (.tmp (.cell gb112 27 #[.int .i64 22, .int .i64 x64_3] (0, 0) _ rfl (by (with_reducible repeat (first | refine blk_drewN ?_ _ | refine blk_drew ?_ | refine blk_alloc ?_ _)); refine blk_put (cs := #[.int .i64 22, .int .i64 x113001_3]) ?_ 1 _ rfl; (with_reducible repeat (first | refine blk_drewN ?_ _ | refine blk_drew ?_ | refine blk_alloc ?_ _)); refine blk_put (cs := #[.int .i64 x113000_3, .int .i64 x113001_3]) ?_ 0 _ rfl; (with_reducible repeat (first | refine blk_drewN ?_ _ | refine blk_drew ?_ | refine blk_alloc ?_ _)); exact BK112.out) Tryd.underlying27 rfl (by kernel_rfl) .nil)))) rfl ?_
                                  exact ⟨_, by first | rfl | (simp [errW_none, errW_some] <;> rfl) | (simp [*, errW_none, errW_some] <;> rfl), by first | exact Kd.R_nil _ _ _ _ _ | exact Kd.N_nil _ _ _ _ _ | exact Kd.V_nil _ _ _ _ _ | exact Kd.Q_nil _ _ _ _ _ | exact Kd.S_nil _ _ _ _ _, by repeat (first | (with_reducible first | exact HB.out | apply below_alloc | apply pw_below_drewN | apply below_drew1 | refine below_set ?_ GE112.out) | exact HB.out)⟩
                                · replace c31 := Bool.eq_false_iff.mpr c31
                                  subst c31
                                  have H1 : (if t122 = 0 then (if t122 > a1 then (some (([] : List Int), 0, 22, x64_3)) else (if (wrap64 (-t122)) > a1 then (some (([] : List Int), 0, 22, x64_3)) else (if x13_3.length < 17592186044416 then (scale_Admit.l1 kj28 a1 x7_2 (x13_3 ++ [t122]) l0 (l0.length : Int) (wrap64 (x64_3 + 1))) else (none)))) else (scale_Admit.l2 kj28 a1 x7_2 x13_3 x64_3 t122 t123 l0 (l0.length : Int) x64_3)) = some (r1, r2, r3, r4) := by rw [if_neg (show ¬ (false = true) by decide)] at H; exact H
                                  clear H
                                  have H := H1
                                  clear H1
                                  by_cases c33 : t122 = 0
                                  · rw [if_pos c33] at H
                                    have c33b0 : (t122 == 0) = true := beq_iff_eq.mpr c33
                                    have c33b1 : (t122 != 0) = false := bne_eq_false_iff_eq.mpr c33
                                    clear c33
                                    by_cases c34 : t122 > a1
                                    · rw [if_pos c34] at H
                                      have c34b0 : decide (a1 < t122) = true := decide_eq_true c34
                                      clear c34
                                      simp only [Option.some.injEq, Prod.mk.injEq] at H
                                      obtain ⟨rfl, rfl, rfl, rfl⟩ := H
                                      have hcz35_0 : wc.cell? ⟨gb112, 0, none⟩ = some (.int .i64 x113000_3) := (blk_cell BK112.out 0).trans rfl
                                      have hcz35_1 : wc.cell? ⟨gb112, 1, none⟩ = some (.int .i64 x113001_3) := (blk_cell BK112.out 1).trans rfl
                                      have hfz35_0 := blk_frozen BK112.out 0
                                      have hfz35_1 := blk_frozen BK112.out 1
                                      go_wp2
                                      refine bodyPost_ret (results_list (rs := [.tmp 4, .tmp 5, .cell 6 27]) rfl (by simp) (.tmp (.tmp (.cell gb112 27 #[.int .i64 22, .int .i64 x64_3] (0, 0) _ rfl (by (with_reducible repeat (first | refine blk_drewN ?_ _ | refine blk_drew ?_ | refine blk_alloc ?_ _)); refine blk_put (cs := #[.int .i64 22, .int .i64 x113001_3]) ?_ 1 _ rfl; (with_reducible repeat (first | refine blk_drewN ?_ _ | refine blk_drew ?_ | refine blk_alloc ?_ _)); refine blk_put (cs := #[.int .i64 x113000_3, .int .i64 x113001_3]) ?_ 0 _ rfl; (with_reducible repeat (first | refine blk_drewN ?_ _ | refine blk_drew ?_ | refine blk_alloc ?_ _)); exact BK112.out) Tryd.underlying27 rfl (by kernel_rfl) .nil)))) rfl ?_
                                      exact ⟨_, by first | rfl | (simp [errW_none, errW_some] <;> rfl) | (simp [*, errW_none, errW_some] <;> rfl), by first | exact Kd.R_nil _ _ _ _ _ | exact Kd.N_nil _ _ _ _ _ | exact Kd.V_nil _ _ _ _ _ | exact Kd.Q_nil _ _ _ _ _ | exact Kd.S_nil _ _ _ _ _, by repeat (first | (with_reducible first | exact HB.out | apply below_alloc | apply pw_below_drewN | apply below_drew1 | refine below_set ?_ GE112.out) | exact HB.out)⟩
                                    · rw [if_neg c34] at H
                                      have c34b0 : decide (a1 < t122) = false := decide_eq_false c34
                                      clear c34
                                      by_cases c36 : (wrap64 (-t122)) > a1
                                      · rw [if_pos c36] at H
                                        have c36b0 : decide (a1 < (wrap64 (-t122))) = true := decide_eq_true c36
                                        clear c36
                                        simp only [Option.some.injEq, Prod.mk.injEq] at H
                                        obtain ⟨rfl, rfl, rfl, rfl⟩ := H
                                        have hcz37_0 : wc.cell? ⟨gb112, 0, none⟩ = some (.int .i64 x113000_3) := (blk_cell BK112.out 0).trans rfl
                                        have hcz37_1 : wc.cell? ⟨gb112, 1, none⟩ = some (.int .i64 x113001_3) := (blk_cell BK112.out 1).trans rfl
                                        have hfz37_0 := blk_frozen BK112.out 0
                                        have hfz37_1 := blk_frozen BK112.out 1
                                        go_wp2
                                        refine bodyPost_ret (results_list (rs := [.tmp 4, .tmp 5, .cell 6 27]) rfl (by simp) (.tmp (.tmp (.cell gb112 27 #[.int .i64 22, .int .i64 x64_3] (0, 0) _ rfl (by (with_reducible repeat (first | refine blk_drewN ?_ _ | refine blk_drew ?_ | refine blk_alloc ?_ _)); refine blk_put (cs := #[.int .i64 22, .int .i64 x113001_3]) ?_ 1 _ rfl; (with_reducible repeat (first | refine blk_drewN ?_ _ | refine blk_drew ?_ | refine blk_alloc ?_ _)); refine blk_put (cs := #[.int .i64 x113000_3, .int .i64 x113001_3]) ?_ 0 _ rfl; (with_reducible repeat (first | refine blk_drewN ?_ _ | refine blk_drew ?_ | refine blk_alloc ?_ _)); exact BK112.out) Tryd.underlying27 rfl (by kernel_rfl) .nil)))) rfl ?_
                                        exact ⟨_, by first | rfl | (simp [errW_none, errW_some] <;> rfl) | (simp [*, errW_none, errW_some] <;> rfl), by first | exact Kd.R_nil _ _ _ _ _ | exact Kd.N_nil _ _ _ _ _ | exact Kd.V_nil _ _ _ _ _ | exact Kd.Q_nil _ _ _ _ _ | exact Kd.S_nil _ _ _ _ _, by repeat (first | (with_reducible first | exact HB.out | apply below_alloc | apply pw_below_drewN | apply below_drew1 | refine below_set ?_ GE112.out) | exact HB.out)⟩
                                      · rw [if_neg c36] at H
                                        have c36b0 : decide (a1 < (wrap64 (-t122))) = false := decide_eq_false c36
                                        clear c36
                                        by_cases c38 : x13_3.length < 17592186044416
                                        · rw [if_pos c38] at H
                                          have LMc38 := Aside0.mk c38
                                          clear c38
                                          obtain ⟨y124, hy124⟩ : ∃ y_ : List Int, y_ = (x13_3 ++ [t122]) := ⟨_, rfl⟩
                                          replace H : (scale_Admit.l1 kj28 a1 x7_2 y124 l0 (l0.length : Int) (wrap64 (x64_3 + 1))) = some (r1, r2, r3, r4) := by first | (rw [hy124]; with_reducible exact H) | (have H2_ := (Option.bind_some _ _).symm.trans H; rw [hy124]; with_reducible exact H2_) | (have H2_ := (Option.bind_some _ _).symm.trans H; with_reducible exact H2_) | with_reducible exact H | (rw [hy124]; exact H) | exact H
                                          have Ny124 := Aside0.mk hy124
                                          clear hy124
                                          have H' := Aside0.mk H
                                          clear H
                                          go_wp2_with (first | ((with_reducible refine gate_builtin (b := .append) (xs := #[.tmp 115, .tmp 117]) rfl ?_); at_builtin; refine Kd.R_append (Kd.int .i64) (w0 := w) w.heap.size rfl (.tmp 115) (.tmp 117) 24 2 (.int .i64 0) 8 rfl Tryd.underlying24 info2 rfl (by decide) (by omega) u13 x13_3 t122 [.int .i64 t122] (fun _ => True) (fun _ => False) rfl rfl ?aP (fun _ hk => hk.elim) ?aF ?aO ?aB ?aS ?aL ?_; (case aP => exact rfl); (case aB => exact (by repeat (first | (with_reducible first | exact HB.out | apply below_alloc | apply pw_below_drewN | apply below_drew1 | refine below_set ?_ GE112.out) | exact HB.out))); (case aF => exact (fun _ _ => trivial)); (case aO => exact (by (with_reducible repeat (first | apply Kd.R_alloc | apply Kd.R_drewN | apply Kd.R_drew)); exact HO_13.out)); (case aS => exact (below_size (by repeat (first | (with_reducible first | exact HB.out | apply below_alloc | apply pw_below_drewN | apply below_drew1 | refine below_set ?_ GE112.out) | exact HB.out)))); (case aL => have := LMc38.out; omega); intro v125 w39 ho hb hg hat; rw [← Ny124.out] at ho; have n0_ := Aside0.mk (blk_grown (g := gb112) (o := .cells #[.int .i64 x113000_3, .int .i64 x113001_3] 27 (0, 0)) (by (with_reducible repeat (first | refine blk_drewN ?_ _ | refine blk_drew ?_ | refine blk_alloc ?_ _)); exact BK112.out) hg (Kd.R_ne HO_13.out BK112.out (by decide))); have n1_ := Aside0.mk (hb); have n2_ := Aside0.mk (ho); clear BK112; clear HB; clear HO_13; have BK112 := n0_; have HB := n1_; have HO126 := n2_; clear n0_ n1_ n2_; clear ho hb hg hat))
                                          go_roundg kj28
                                          case measure => have := HJ2.out; have := HK2.out; have := HK3.out; have := HJ28.out; omega
                                          case rel => exact ⟨(y124), (wrap64 (x64_3 + 1)), (x113000_3), (x113001_3), (by first | rfl | (simp; done) | (simp [*]; done)), H', ⟨by have := HJ2.out; have := HK2.out; have := HK3.out; have := HJ28.out; omega⟩, ⟨by (with_reducible repeat (first | apply Kd.R_alloc | apply Kd.R_drewN | apply Kd.R_drew)); exact HO126.out⟩, ⟨by (with_reducible repeat (first | refine blk_drewN ?_ _ | refine blk_drew ?_ | refine blk_alloc ?_ _)); exact BK112.out⟩, ⟨by repeat (first | (with_reducible first | exact HB.out | apply below_alloc | apply pw_below_drewN | apply below_drew1 | refine below_set ?_ GE112.out) | exact HB.out)⟩⟩
                                        · rw [if_neg c38] at H
                                          exact absurd H (by simp)
                                  · rw [if_neg c33] at H
                                    have c33b0 : (t122 == 0) = false := beq_eq_false_iff_ne.mpr c33
                                    have c33b1 : (t122 != 0) = true := bne_iff_ne.mpr c33
                                    have H' := Aside0.mk H
                                    clear H
                                    go_wp2
                                    go_loopg [16, 17] kj28 (fun kq v16 v17 w' => ∃ (x16_5 : Int) (x17_5 : Int), v16 = .int .i64 x16_5 ∧ v17 = .int .i64 x17_5 ∧ Aside0 (scale_Admit.l2 kq a1 x7_2 x13_3 x64_3 x16_5 x17_5 l0 (l0.length : Int) x64_3 = some (r1, r2, r3, r4)) ∧ Aside0 (kq ≤ kj28) ∧ Aside0 (Kd.R (Kd.int .i64) 2 w' w.heap.size (fun _ => True) u13 x13_3) ∧ Aside0 (w'.heap[gb112]? = some (.cells #[.int .i64 x113000_3, .int .i64 x113001_3] 27 (0, 0))) ∧ Aside0 (Below w.heap.size w w'))
                                    case atStart => exact ⟨(t122), (t123), (by first | rfl | (simp; done) | (simp [*]; done)), (by first | rfl | (simp; done) | (simp [*]; done)), H', ⟨Nat.le_refl _⟩, ⟨by (with_reducible repeat (first | apply Kd.R_alloc | apply Kd.R_drewN | apply Kd.R_drew)); exact HO_13.out⟩, ⟨by (with_reducible repeat (first | refine blk_drewN ?_ _ | refine blk_drew ?_ | refine blk_alloc ?_ _)); exact BK112.out⟩, ⟨by repeat (first | (with_reducible first | exact HB.out | apply below_alloc | apply pw_below_drewN | apply below_drew1 | refine below_set ?_ GE112.out) | exact HB.out)⟩⟩
                                    case round =>
                                      clear H'
                                      try clear c1
                                      try clear p1
                                      try clear q1
                                      try clear hx1
                                      try clear c2
                                      try clear p2
                                      try clear c3
                                      try clear c5
                                      try clear c5b0
                                      try clear c6
                                      try clear p6
                                      try clear c8
                                      try clear c8b0
                                      try clear c9
                                      try clear c9b0
                                      try clear c10
                                      try clear c10b0
                                      try clear p11
                                      try clear q11
                                      try clear hx11
                                      try clear c12
                                      try clear p12
                                      try clear q12
                                      try clear hx12
                                      try clear c15
                                      try clear c17
                                      try clear c17b0
                                      try clear c17b1
                                      try clear c17b2
                                      try clear c18
                                      try clear c19
                                      try clear c20
                                      try clear c20b0
                                      try clear c21
                                      try clear c21b0
                                      try clear c21b1
                                      try clear c22
                                      try clear c22b0
                                      try clear c22b1
                                      try clear c25
                                      try clear c25b0
                                      try clear c26
                                      try clear c26b0
                                      try clear c27
                                      try clear c27b0
                                      try clear c30
                                      try clear c30b0
                                      try clear c30b1
                                      try clear c31
                                      try clear c33
                                      try clear c33b0
                                      try clear c33b1
                                      try clear c34
                                      try clear c34b0
                                      try clear c36
                                      try clear c36b0
                                      try clear c38
                                      try clear hcz13_0
                                      try clear hcz13_1
                                      try clear hcz16_0
                                      try clear hcz16_1
                                      try clear hcz32_0
                                      try clear hcz32_1
                                      try clear hcz35_0
                                      try clear hcz35_1
                                      try clear hcz37_0
                                      try clear hcz37_1
                                      try clear hcz7_0
                                      try clear hcz7_1
                                      try clear hfz13_0
                                      try clear hfz13_1
                                      try clear hfz16_0
                                      try clear hfz16_1
                                      try clear hfz32_0
                                      try clear hfz32_1
                                      try clear hfz35_0
                                      try clear hfz35_1
                                      try clear hfz37_0
                                      try clear hfz37_1
                                      try clear hfz7_0
                                      try clear hfz7_1
                                      try clear hx113_0
                                      try clear hx121_0
                                      try clear p1
                                      try clear p11
                                      try clear p113
                                      try clear p12
                                      try clear p121
                                      try clear p2
                                      try clear p6
                                      try clear q1
                                      try clear q11
                                      try clear q113
                                      try clear q12
                                      try clear q121
                                      obtain ⟨x16_5, x17_5, rfl, rfl, HA, HK5, HO_13, BK112, HB⟩ := hrel
                                      cases gk with
                                      | zero => exact absurd HA.out (by simp [scale_Admit.l2])
                                      | succ k5 =>
                                        have H := HA.out
                                        clear HA
                                        simp only [scale_Admit.l2] at H
                                        by_cases c40 : x17_5 > x7_2
                                        · rw [if_pos c40] at H
                                          have c40b0 : decide (x7_2 < x17_5) = true := decide_eq_true c40
                                          clear c40
                                          by_cases c41 : x16_5 ≤ a1
                                          · rw [if_pos c41] at H
                                            have c41b0 : decide (x16_5 ≤ a1) = true := decide_eq_true c41
                                            clear c41
                                            by_cases c42 : (wrap64 (-x16_5)) ≤ a1
                                            · rw [if_pos c42] at H
                                              have c42b0 : decide ((wrap64 (-x16_5)) ≤ a1) = true := decide_eq_true c42
                                              clear c42
                                              have H' := Aside0.mk H
                                              clear H
                                              go_wp2
                                              go_roundg k5
                                              case measure => have := HJ2.out; have := HK2.out; have := HK3.out; have := HJ28.out; have := HK5.out; omega
                                              case rel => exact ⟨(wrap64 (x16_5 * 2)), (wrap64 (x17_5 - 1)), (by first | rfl | (simp; done) | (simp [*]; done)), (by first | rfl | (simp; done) | (simp [*]; done)), H', ⟨by have := HJ2.out; have := HK2.out; have := HK3.out; have := HJ28.out; have := HK5.out; omega⟩, ⟨by (with_reducible repeat (first | apply Kd.R_alloc | apply Kd.R_drewN | apply Kd.R_drew)); exact HO_13.out⟩, ⟨by (with_reducible repeat (first | refine blk_drewN ?_ _ | refine blk_drew ?_ | refine blk_alloc ?_ _)); exact BK112.out⟩, ⟨by repeat (first | (with_reducible first | exact HB.out | apply below_alloc | apply pw_below_drewN | apply below_drew1 | refine below_set ?_ GE112.out) | exact HB.out)⟩⟩
                                            · rw [if_neg c42] at H
                                              have c42b0 : decide ((wrap64 (-x16_5)) ≤ a1) = false := decide_eq_false c42
                                              clear c42
                                              by_cases c43 : x16_5 > a1
                                              · rw [if_pos c43] at H
                                                have c43b0 : decide (a1 < x16_5) = true := decide_eq_true c43
                                                clear c43
                                                simp only [Option.some.injEq, Prod.mk.injEq] at H
                                                obtain ⟨rfl, rfl, rfl, rfl⟩ := H
                                                have hcz44_0 : wr.cell? ⟨gb112, 0, none⟩ = some (.int .i64 x113000_3) := (blk_cell BK112.out 0).trans rfl
                                                have hcz44_1 : wr.cell? ⟨gb112, 1, none⟩ = some (.int .i64 x113001_3) := (blk_cell BK112.out 1).trans rfl
                                                have hfz44_0 := blk_frozen BK112.out 0
                                                have hfz44_1 := blk_frozen BK112.out 1
                                                go_wp2
                                                refine bodyPost_ret (results_list (rs := [.tmp 4, .tmp 5, .cell 6 27]) rfl (by simp) (.tmp (.tmp (.cell gb112 27 #[.int .i64 22, .int .i64 x64_3] (0, 0) _ rfl (by (with_reducible repeat (first | refine blk_drewN ?_ _ | refine blk_drew ?_ | refine blk_alloc ?_ _)); refine blk_put (cs := #[.int .i64 22, .int .i64 x113001_3]) ?_ 1 _ rfl; (with_reducible repeat (first | refine blk_drewN ?_ _ | refine blk_drew ?_ | refine blk_alloc ?_ _)); refine blk_put (cs := #[.int .i64 x113000_3, .int .i64 x113001_3]) ?_ 0 _ rfl; (with_reducible repeat (first | refine blk_drewN ?_ _ | refine blk_drew ?_ | refine blk_alloc ?_ _)); exact BK112.out) Tryd.underlying27 rfl (by kernel_rfl) .nil)))) rfl ?_
                                                exact ⟨_, by first | rfl | (simp [errW_none, errW_some] <;> rfl) | (simp [*, errW_none, errW_some] <;> rfl), by first | exact Kd.R_nil _ _ _ _ _ | exact Kd.N_nil _ _ _ _ _ | exact Kd.V_nil _ _ _ _ _ | exact Kd.Q_nil _ _ _ _ _ | exact Kd.S_nil _ _ _ _ _, by repeat (first | (with_reducible first | exact HB.out | apply below_alloc | apply pw_below_drewN | apply below_drew1 | refine below_set ?_ GE112.out) | exact HB.out)⟩
                                              · rw [if_neg c43] at H
                                                have c43b0 : decide (a1 < x16_5) = false := decide_eq_false c43
                                                clear c43
                                                by_cases c45 : (wrap64 (-x16_5)) > a1
                                                · rw [if_pos c45] at H
                                                  have c45b0 : decide (a1 < (wrap64 (-x16_5))) = true := decide_eq_true c45
                                                  clear c45
                                                  simp only [Option.some.injEq, Prod.mk.injEq] at H
                                                  obtain ⟨rfl, rfl, rfl, rfl⟩ := H
                                                  have hcz46_0 : wr.cell? ⟨gb112, 0, none⟩ = some (.int .i64 x113000_3) := (blk_cell BK112.out 0).trans rfl
                                                  have hcz46_1 : wr.cell? ⟨gb112, 1, none⟩ = some (.int .i64 x113001_3) := (blk_cell BK112.out 1).trans rfl
                                                  have hfz46_0 := blk_frozen BK112.out 0
                                                  have hfz46_1 := blk_frozen BK112.out 1
                                                  go_wp2
                                                  refine bodyPost_ret (results_list (rs := [.tmp 4, .tmp 5, .cell 6 27]) rfl (by simp) (.tmp (.tmp (.cell gb112 27 #[.int .i64 22, .int .i64 x64_3] (0, 0) _ rfl (by (with_reducible repeat (first | refine blk_drewN ?_ _ | refine blk_drew ?_ | refine blk_alloc ?_ _)); refine blk_put (cs := #[.int .i64 22, .int .i64 x113001_3]) ?_ 1 _ rfl; (with_reducible repeat (first | refine blk_drewN ?_ _ | refine blk_drew ?_ | refine blk_alloc ?_ _)); refine blk_put (cs := #[.int .i64 x113000_3, .int .i64 x113001_3]) ?_ 0 _ rfl; (with_reducible repeat (first | refine blk_drewN ?_ _ | refine blk_drew ?_ | refine blk_alloc ?_ _)); exact BK112.out) Tryd.underlying27 rfl (by kernel_rfl) .nil)))) rfl ?_
                                                  exact ⟨_, by first | rfl | (simp [errW_none, errW_some] <;> rfl) | (simp [*, errW_none, errW_some] <;> rfl), by first | exact Kd.R_nil _ _ _ _ _ | exact Kd.N_nil _ _ _ _ _ | exact Kd.V_nil _ _ _ _ _ | exact Kd.Q_nil _ _ _ _ _ | exact Kd.S_nil _ _ _ _ _, by repeat (first | (with_reducible first | exact HB.out | apply below_alloc | apply pw_below_drewN | apply below_drew1 | refine below_set ?_ GE112.out) | exact HB.out)⟩
                                                · rw [if_neg c45] at H
                                                  have c45b0 : decide (a1 < (wrap64 (-x16_5))) = false := decide_eq_false c45
                                                  clear c45
                                                  by_cases c47 : x13_3.length < 17592186044416
                                                  · rw [if_pos c47] at H
                                                    have LMc47 := Aside0.mk c47
                                                    clear c47
                                                    obtain ⟨y127, hy127⟩ : ∃ y_ : List Int, y_ = (x13_3 ++ [x16_5]) := ⟨_, rfl⟩
                                                    replace H : (scale_Admit.l1 k5 a1 x7_2 y127 l0 (l0.length : Int) (wrap64 (x64_3 + 1))) = some (r1, r2, r3, r4) := by first | (rw [hy127]; with_reducible exact H) | (have H2_ := (Option.bind_some _ _).symm.trans H; rw [hy127]; with_reducible exact H2_) | (have H2_ := (Option.bind_some _ _).symm.trans H; with_reducible exact H2_) | with_reducible exact H | (rw [hy127]; exact H) | exact H
                                                    have Ny127 := Aside0.mk hy127
                                                    clear hy127
                                                    have H' := Aside0.mk H
                                                    clear H
                                                    go_wp2_with (first | ((with_reducible refine gate_builtin (b := .append) (xs := #[.tmp 115, .tmp 117]) rfl ?_); at_builtin; refine Kd.R_append (Kd.int .i64) (w0 := w) w.heap.size rfl (.tmp 115) (.tmp 117) 24 2 (.int .i64 0) 8 rfl Tryd.underlying24 info2 rfl (by decide) (by omega) u13 x13_3 x16_5 [.int .i64 x16_5] (fun _ => True) (fun _ => False) rfl rfl ?aP (fun _ hk => hk.elim) ?aF ?aO ?aB ?aS ?aL ?_; (case aP => exact rfl); (case aB => exact (by repeat (first | (with_reducible first | exact HB.out | apply below_alloc | apply pw_below_drewN | apply below_drew1 | refine below_set ?_ GE112.out) | exact HB.out))); (case aF => exact (fun _ _ => trivial)); (case aO => exact (by (with_reducible repeat (first | apply Kd.R_alloc | apply Kd.R_drewN | apply Kd.R_drew)); exact HO_13.out)); (case aS => exact (below_size (by repeat (first | (with_reducible first | exact HB.out | apply below_alloc | apply pw_below_drewN | apply below_drew1 | refine below_set ?_ GE112.out) | exact HB.out)))); (case aL => have := LMc47.out; omega); intro v128 w48 ho hb hg hat; rw [← Ny127.out] at ho; have n0_ := Aside0.mk (blk_grown (g := gb112) (o := .cells #[.int .i64 x113000_3, .int .i64 x113001_3] 27 (0, 0)) (by (with_reducible repeat (first | refine blk_drewN ?_ _ | refine blk_drew ?_ | refine blk_alloc ?_ _)); exact BK112.out) hg (Kd.R_ne HO_13.out BK112.out (by decide))); have n1_ := Aside0.mk (hb); have n2_ := Aside0.mk (ho); clear BK112; clear HB; clear HO_13; have BK112 := n0_; have HB := n1_; have HO129 := n2_; clear n0_ n1_ n2_; clear ho hb hg hat))
                                                    go_roundg k5
                                                    case measure => have := HJ2.out; have := HK2.out; have := HK3.out; have := HJ28.out; have := HK5.out; omega
                                                    case rel => exact ⟨(y127), (wrap64 (x64_3 + 1)), (x113000_3), (x113001_3), (by first | rfl | (simp; done) | (simp [*]; done)), H', ⟨by have := HJ2.out; have := HK2.out; have := HK3.out; have := HJ28.out; have := HK5.out; omega⟩, ⟨by (with_reducible repeat (first | apply Kd.R_alloc | apply Kd.R_drewN | apply Kd.R_drew)); exact HO129.out⟩, ⟨by (with_reducible repeat (first | refine blk_drewN ?_ _ | refine blk_drew ?_ | refine blk_alloc ?_ _)); exact BK112.out⟩, ⟨by repeat (first | (with_reducible first | exact HB.out | apply below_alloc | apply pw_below_drewN | apply below_drew1 | refine below_set ?_ GE112.out) | exact HB.out)⟩⟩
                                                  · rw [if_neg c47] at H
                                                    exact absurd H (by simp)
                                          · rw [if_neg c41] at H
                                            have c41b0 : decide (x16_5 ≤ a1) = false := decide_eq_false c41
                                            clear c41
                                            by_cases c49 : x16_5 > a1
                                            · rw [if_pos c49] at H
                                              have c49b0 : decide (a1 < x16_5) = true := decide_eq_true c49
                                              clear c49
                                              simp only [Option.some.injEq, Prod.mk.injEq] at H
                                              obtain ⟨rfl, rfl, rfl, rfl⟩ := H
                                              have hcz50_0 : wr.cell? ⟨gb112, 0, none⟩ = some (.int .i64 x113000_3) := (blk_cell BK112.out 0).trans rfl
                                              have hcz50_1 : wr.cell? ⟨gb112, 1, none⟩ = some (.int .i64 x113001_3) := (blk_cell BK112.out 1).trans rfl
                                              have hfz50_0 := blk_frozen BK112.out 0
                                              have hfz50_1 := blk_frozen BK112.out 1
                                              go_wp2
                                              refine bodyPost_ret (results_list (rs := [.tmp 4, .tmp 5, .cell 6 27]) rfl (by simp) (.tmp (.tmp (.cell gb112 27 #[.int .i64 22, .int .i64 x64_3] (0, 0) _ rfl (by (with_reducible repeat (first | refine blk_drewN ?_ _ | refine blk_drew ?_ | refine blk_alloc ?_ _)); refine blk_put (cs := #[.int .i64 22, .int .i64 x113001_3]) ?_ 1 _ rfl; (with_reducible repeat (first | refine blk_drewN ?_ _ | refine blk_drew ?_ | refine blk_alloc ?_ _)); refine blk_put (cs := #[.int .i64 x113000_3, .int .i64 x113001_3]) ?_ 0 _ rfl; (with_reducible repeat (first | refine blk_drewN ?_ _ | refine blk_drew ?_ | refine blk_alloc ?_ _)); exact BK112.out) Tryd.underlying27 rfl (by kernel_rfl) .nil)))) rfl ?_
                                              exact ⟨_, by first | rfl | (simp [errW_none, errW_some] <;> rfl) | (simp [*, errW_none, errW_some] <;> rfl), by first | exact Kd.R_nil _ _ _ _ _ | exact Kd.N_nil _ _ _ _ _ | exact Kd.V_nil _ _ _ _ _ | exact Kd.Q_nil _ _ _ _ _ | exact Kd.S_nil _ _ _ _ _, by repeat (first | (with_reducible first | exact HB.out | apply below_alloc | apply pw_below_drewN | apply below_drew1 | refine below_set ?_ GE112.out) | exact HB.out)⟩
                                            · rw [if_neg c49] at H
                                              have c49b0 : decide (a1 < x16_5) = false := decide_eq_false c49
                                              clear c49
                                              by_cases c51 : (wrap64 (-x16_5)) > a1
                                              · rw [if_pos c51] at H
                                                have c51b0 : decide (a1 < (wrap64 (-x16_5))) = true := decide_eq_true c51
                                                clear c51
                                                simp only [Option.some.injEq, Prod.mk.injEq] at H
                                                obtain ⟨rfl, rfl, rfl, rfl⟩ := H
                                                have hcz52_0 : wr.cell? ⟨gb112, 0, none⟩ = some (.int .i64 x113000_3) := (blk_cell BK112.out 0).trans rfl
                                                have hcz52_1 : wr.cell? ⟨gb112, 1, none⟩ = some (.int .i64 x113001_3) := (blk_cell BK112.out 1).trans rfl
                                                have hfz52_0 := blk_frozen BK112.out 0
                                                have hfz52_1 := blk_frozen BK112.out 1
                                                go_wp2
                                                refine bodyPost_ret (results_list (rs := [.tmp 4, .tmp 5, .cell 6 27]) rfl (by simp) (.tmp (.tmp (.cell gb112 27 #[.int .i64 22, .int .i64 x64_3] (0, 0) _ rfl (by (with_reducible repeat (first | refine blk_drewN ?_ _ | refine blk_drew ?_ | refine blk_alloc ?_ _)); refine blk_put (cs := #[.int .i64 22, .int .i64 x113001_3]) ?_ 1 _ rfl; (with_reducible repeat (first | refine blk_drewN ?_ _ | refine blk_drew ?_ | refine blk_alloc ?_ _)); refine blk_put (cs := #[.int .i64 x113000_3, .int .i64 x113001_3]) ?_ 0 _ rfl; (with_reducible repeat (first | refine blk_drewN ?_ _ | refine blk_drew ?_ | refine blk_alloc ?_ _)); exact BK112.out) Tryd.underlying27 rfl (by kernel_rfl) .nil)))) rfl ?_
                                                exact ⟨_, by first | rfl | (simp [errW_none, errW_some] <;> rfl) | (simp [*, errW_none, errW_some] <;> rfl), by first | exact Kd.R_nil _ _ _ _ _ | exact Kd.N_nil _ _ _ _ _ | exact Kd.V_nil _ _ _ _ _ | exact Kd.Q_nil _ _ _ _ _ | exact Kd.S_nil _ _ _ _ _, by repeat (first | (with_reducible first | exact HB.out | apply below_alloc | apply pw_below_drewN | apply below_drew1 | refine below_set ?_ GE112.out) | exact HB.out)⟩
                                              · rw [if_neg c51] at H
                                                have c51b0 : decide (a1 < (wrap64 (-x16_5))) = false := decide_eq_false c51
                                                clear c51
                                                by_cases c53 : x13_3.length < 17592186044416
                                                · rw [if_pos c53] at H
                                                  have LMc53 := Aside0.mk c53
                                                  clear c53
                                                  obtain ⟨y130, hy130⟩ : ∃ y_ : List Int, y_ = (x13_3 ++ [x16_5]) := ⟨_, rfl⟩
                                                  replace H : (scale_Admit.l1 k5 a1 x7_2 y130 l0 (l0.length : Int) (wrap64 (x64_3 + 1))) = some (r1, r2, r3, r4) := by first | (rw [hy130]; with_reducible exact H) | (have H2_ := (Option.bind_some _ _).symm.trans H; rw [hy130]; with_reducible exact H2_) | (have H2_ := (Option.bind_some _ _).symm.trans H; with_reducible exact H2_) | with_reducible exact H | (rw [hy130]; exact H) | exact H
                                                  have Ny130 := Aside0.mk hy130
                                                  clear hy130
                                                  have H' := Aside0.mk H
                                                  clear H
                                                  go_wp2_with (first | ((with_reducible refine gate_builtin (b := .append) (xs := #[.tmp 115, .tmp 117]) rfl ?_); at_builtin; refine Kd.R_append (Kd.int .i64) (w0 := w) w.heap.size rfl (.tmp 115) (.tmp 117) 24 2 (.int .i64 0) 8 rfl Tryd.underlying24 info2 rfl (by decide) (by omega) u13 x13_3 x16_5 [.int .i64 x16_5] (fun _ => True) (fun _ => False) rfl rfl ?aP (fun _ hk => hk.elim) ?aF ?aO ?aB ?aS ?aL ?_; (case aP => exact rfl); (case aB => exact (by repeat (first | (with_reducible first | exact HB.out | apply below_alloc | apply pw_below_drewN | apply below_drew1 | refine below_set ?_ GE112.out) | exact HB.out))); (case aF => exact (fun _ _ => trivial)); (case aO => exact (by (with_reducible repeat (first | apply Kd.R_alloc | apply Kd.R_drewN | apply Kd.R_drew)); exact HO_13.out)); (case aS => exact (below_size (by repeat (first | (with_reducible first | exact HB.out | apply below_alloc | apply pw_below_drewN | apply below_drew1 | refine below_set ?_ GE112.out) | exact HB.out)))); (case aL => have := LMc53.out; omega); intro v131 w54 ho hb hg hat; rw [← Ny130.out] at ho; have n0_ := Aside0.mk (blk_grown (g := gb112) (o := .cells #[.int .i64 x113000_3, .int .i64 x113001_3] 27 (0, 0)) (by (with_reducible repeat (first | refine blk_drewN ?_ _ | refine blk_drew ?_ | refine blk_alloc ?_ _)); exact BK112.out) hg (Kd.R_ne HO_13.out BK112.out (by decide))); have n1_ := Aside0.mk (hb); have n2_ := Aside0.mk (ho); clear BK112; clear HB; clear HO_13; have BK112 := n0_; have HB := n1_; have HO132 := n2_; clear n0_ n1_ n2_; clear ho hb hg hat))
                                                  go_roundg k5
                                                  case measure => have := HJ2.out; have := HK2.out; have := HK3.out; have := HJ28.out; have := HK5.out; omega
                                                  case rel => exact ⟨(y130), (wrap64 (x64_3 + 1)), (x113000_3), (x113001_3), (by first | rfl | (simp; done) | (simp [*]; done)), H', ⟨by have := HJ2.out; have := HK2.out; have := HK3.out; have := HJ28.out; have := HK5.out; omega⟩, ⟨by (with_reducible repeat (first | apply Kd.R_alloc | apply Kd.R_drewN | apply Kd.R_drew)); exact HO132.out⟩, ⟨by (with_reducible repeat (first | refine blk_drewN ?_ _ | refine blk_drew ?_ | refine blk_alloc ?_ _)); exact BK112.out⟩, ⟨by repeat (first | (with_reducible first | exact HB.out | apply below_alloc | apply pw_below_drewN | apply below_drew1 | refine below_set ?_ GE112.out) | exact HB.out)⟩⟩
                                                · rw [if_neg c53] at H
                                                  exact absurd H (by simp)
                                        · rw [if_neg c40] at H
                                          have c40b0 : decide (x7_2 < x17_5) = false := decide_eq_false c40
                                          clear c40
                                          by_cases c55 : x16_5 > a1
                                          · rw [if_pos c55] at H
                                            have c55b0 : decide (a1 < x16_5) = true := decide_eq_true c55
                                            clear c55
                                            simp only [Option.some.injEq, Prod.mk.injEq] at H
                                            obtain ⟨rfl, rfl, rfl, rfl⟩ := H
                                            have hcz56_0 : wr.cell? ⟨gb112, 0, none⟩ = some (.int .i64 x113000_3) := (blk_cell BK112.out 0).trans rfl
                                            have hcz56_1 : wr.cell? ⟨gb112, 1, none⟩ = some (.int .i64 x113001_3) := (blk_cell BK112.out 1).trans rfl
                                            have hfz56_0 := blk_frozen BK112.out 0
                                            have hfz56_1 := blk_frozen BK112.out 1
                                            go_wp2
                                            refine bodyPost_ret (results_list (rs := [.tmp 4, .tmp 5, .cell 6 27]) rfl (by simp) (.tmp (.tmp (.cell gb112 27 #[.int .i64 22, .int .i64 x64_3] (0, 0) _ rfl (by (with_reducible repeat (first | refine blk_drewN ?_ _ | refine blk_drew ?_ | refine blk_alloc ?_ _)); refine blk_put (cs := #[.int .i64 22, .int .i64 x113001_3]) ?_ 1 _ rfl; (with_reducible repeat (first | refine blk_drewN ?_ _ | refine blk_drew ?_ | refine blk_alloc ?_ _)); refine blk_put (cs := #[.int .i64 x113000_3, .int .i64 x113001_3]) ?_ 0 _ rfl; (with_reducible repeat (first | refine blk_drewN ?_ _ | refine blk_drew ?_ | refine blk_alloc ?_ _)); exact BK112.out) Tryd.underlying27 rfl (by kernel_rfl) .nil)))) rfl ?_
                                            exact ⟨_, by first | rfl | (simp [errW_none, errW_some] <;> rfl) | (simp [*, errW_none, errW_some] <;> rfl), by first | exact Kd.R_nil _ _ _ _ _ | exact Kd.N_nil _ _ _ _ _ | exact Kd.V_nil _ _ _ _ _ | exact Kd.Q_nil _ _ _ _ _ | exact Kd.S_nil _ _ _ _ _, by repeat (first | (with_reducible first | exact HB.out | apply below_alloc | apply pw_below_drewN | apply below_drew1 | refine below_set ?_ GE112.out) | exact HB.out)⟩
                                          · rw [if_neg c55] at H
                                            have c55b0 : decide (a1 < x16_5) = false := decide_eq_false c55
                                            clear c55
                                            by_cases c57 : (wrap64 (-x16_5)) > a1
                                            · rw [if_pos c57] at H
                                              have c57b0 : decide (a1 < (wrap64 (-x16_5))) = true := decide_eq_true c57
                                              clear c57
                                              simp only [Option.some.injEq, Prod.mk.injEq] at H
                                              obtain ⟨rfl, rfl, rfl, rfl⟩ := H
                                              have hcz58_0 : wr.cell? ⟨gb112, 0, none⟩ = some (.int .i64 x113000_3) := (blk_cell BK112.out 0).trans rfl
                                              have hcz58_1 : wr.cell? ⟨gb112, 1, none⟩ = some (.int .i64 x113001_3) := (blk_cell BK112.out 1).trans rfl
                                              have hfz58_0 := blk_frozen BK112.out 0
                                              have hfz58_1 := blk_frozen BK112.out 1
                                              go_wp2
                                              refine bodyPost_ret (results_list (rs := [.tmp 4, .tmp 5, .cell 6 27]) rfl (by simp) (.tmp (.tmp (.cell gb112 27 #[.int .i64 22, .int .i64 x64_3] (0, 0) _ rfl (by (with_reducible repeat (first | refine blk_drewN ?_ _ | refine blk_drew ?_ | refine blk_alloc ?_ _)); refine blk_put (cs := #[.int .i64 22, .int .i64 x113001_3]) ?_ 1 _ rfl; (with_reducible repeat (first | refine blk_drewN ?_ _ | refine blk_drew ?_ | refine blk_alloc ?_ _)); refine blk_put (cs := #[.int .i64 x113000_3, .int .i64 x113001_3]) ?_ 0 _ rfl; (with_reducible repeat (first | refine blk_drewN ?_ _ | refine blk_drew ?_ | refine blk_alloc ?_ _)); exact BK112.out) Tryd.underlying27 rfl (by kernel_rfl) .nil)))) rfl ?_
                                              exact ⟨_, by first | rfl | (simp [errW_none, errW_some] <;> rfl) | (simp [*, errW_none, errW_some] <;> rfl), by first | exact Kd.R_nil _ _ _ _ _ | exact Kd.N_nil _ _ _ _ _ | exact Kd.V_nil _ _ _ _ _ | exact Kd.Q_nil _ _ _ _ _ | exact Kd.S_nil _ _ _ _ _, by repeat (first | (with_reducible first | exact HB.out | apply below_alloc | apply pw_below_drewN | apply below_drew1 | refine below_set ?_ GE112.out) | exact HB.out)⟩
                                            · rw [if_neg c57] at H
                                              have c57b0 : decide (a1 < (wrap64 (-x16_5))) = false := decide_eq_false c57
                                              clear c57
                                              by_cases c59 : x13_3.length < 17592186044416
                                              · rw [if_pos c59] at H
                                                have LMc59 := Aside0.mk c59
                                                clear c59
                                                obtain ⟨y133, hy133⟩ : ∃ y_ : List Int, y_ = (x13_3 ++ [x16_5]) := ⟨_, rfl⟩
                                                replace H : (scale_Admit.l1 k5 a1 x7_2 y133 l0 (l0.length : Int) (wrap64 (x64_3 + 1))) = some (r1, r2, r3, r4) := by first | (rw [hy133]; with_reducible exact H) | (have H2_ := (Option.bind_some _ _).symm.trans H; rw [hy133]; with_reducible exact H2_) | (have H2_ := (Option.bind_some _ _).symm.trans H; with_reducible exact H2_) | with_reducible exact H | (rw [hy133]; exact H) | exact H
                                                have Ny133 := Aside0.mk hy133
                                                clear hy133
                                                have H' := Aside0.mk H
                                                clear H
                                                go_wp2_with (first | ((with_reducible refine gate_builtin (b := .append) (xs := #[.tmp 115, .tmp 117]) rfl ?_); at_builtin; refine Kd.R_append (Kd.int .i64) (w0 := w) w.heap.size rfl (.tmp 115) (.tmp 117) 24 2 (.int .i64 0) 8 rfl Tryd.underlying24 info2 rfl (by decide) (by omega) u13 x13_3 x16_5 [.int .i64 x16_5] (fun _ => True) (fun _ => False) rfl rfl ?aP (fun _ hk => hk.elim) ?aF ?aO ?aB ?aS ?aL ?_; (case aP => exact rfl); (case aB => exact (by repeat (first | (with_reducible first | exact HB.out | apply below_alloc | apply pw_below_drewN | apply below_drew1 | refine below_set ?_ GE112.out) | exact HB.out))); (case aF => exact (fun _ _ => trivial)); (case aO => exact (by (with_reducible repeat (first | apply Kd.R_alloc | apply Kd.R_drewN | apply Kd.R_drew)); exact HO_13.out)); (case aS => exact (below_size (by repeat (first | (with_reducible first | exact HB.out | apply below_alloc | apply pw_below_drewN | apply below_drew1 | refine below_set ?_ GE112.out) | exact HB.out)))); (case aL => have := LMc59.out; omega); intro v134 w60 ho hb hg hat; rw [← Ny133.out] at ho; have n0_ := Aside0.mk (blk_grown (g := gb112) (o := .cells #[.int .i64 x113000_3, .int .i64 x113001_3] 27 (0, 0)) (by (with_reducible repeat (first | refine blk_drewN ?_ _ | refine blk_drew ?_ | refine blk_alloc ?_ _)); exact BK112.out) hg (Kd.R_ne HO_13.out BK112.out (by decide))); have n1_ := Aside0.mk (hb); have n2_ := Aside0.mk (ho); clear BK112; clear HB; clear HO_13; have BK112 := n0_; have HB := n1_; have HO135 := n2_; clear n0_ n1_ n2_; clear ho hb hg hat))
                                                go_roundg k5
                                                case measure => have := HJ2.out; have := HK2.out; have := HK3.out; have := HJ28.out; have := HK5.out; omega
                                                case rel => exact ⟨(y133), (wrap64 (x64_3 + 1)), (x113000_3), (x113001_3), (by first | rfl | (simp; done) | (simp [*]; done)), H', ⟨by have := HJ2.out; have := HK2.out; have := HK3.out; have := HJ28.out; have := HK5.out; omega⟩, ⟨by (with_reducible repeat (first | apply Kd.R_alloc | apply Kd.R_drewN | apply Kd.R_drew)); exact HO135.out⟩, ⟨by (with_reducible repeat (first | refine blk_drewN ?_ _ | refine blk_drew ?_ | refine blk_alloc ?_ _)); exact BK112.out⟩, ⟨by repeat (first | (with_reducible first | exact HB.out | apply below_alloc | apply pw_below_drewN | apply below_drew1 | refine below_set ?_ GE112.out) | exact HB.out)⟩⟩
                                              · rw [if_neg c59] at H
                                                exact absurd H (by simp)
                          · rw [if_neg c27] at H
                            exact absurd H (by simp)
                        · rw [if_neg c26] at H
                          exact absurd H (by simp)
                      · rw [if_neg c25] at H
                        have c25b0 : decide (x64_3 < (l0.length : Int)) = false := decide_eq_false c25
                        clear c25
                        simp only [Option.some.injEq, Prod.mk.injEq] at H
                        obtain ⟨rfl, rfl, rfl, rfl⟩ := H
                        have hcz61_0 : wr.cell? ⟨gb112, 0, none⟩ = some (.int .i64 x113000_3) := (blk_cell BK112.out 0).trans rfl
                        have hcz61_1 : wr.cell? ⟨gb112, 1, none⟩ = some (.int .i64 x113001_3) := (blk_cell BK112.out 1).trans rfl
                        have hfz61_0 := blk_frozen BK112.out 0
                        have hfz61_1 := blk_frozen BK112.out 1
                        go_wp2
                        refine bodyPost_ret (results_list (rs := [.tmp 4, .tmp 5, .cell 6 27]) rfl (by simp) (.tmp (.tmp (.cell gb112 27 #[.int .i64 0, .int .i64 0] (0, 0) _ rfl (by (with_reducible repeat (first | refine blk_drewN ?_ _ | refine blk_drew ?_ | refine blk_alloc ?_ _)); refine blk_put (cs := #[.int .i64 0, .int .i64 x113001_3]) ?_ 1 _ rfl; (with_reducible repeat (first | refine blk_drewN ?_ _ | refine blk_drew ?_ | refine blk_alloc ?_ _)); refine blk_put (cs := #[.int .i64 x113000_3, .int .i64 x113001_3]) ?_ 0 _ rfl; (with_reducible repeat (first | refine blk_drewN ?_ _ | refine blk_drew ?_ | refine blk_alloc ?_ _)); exact BK112.out) Tryd.underlying27 rfl (by kernel_rfl) .nil)))) rfl ?_
                        exact ⟨_, by first | rfl | (simp [errW_none, errW_some] <;> rfl) | (simp [*, errW_none, errW_some] <;> rfl), by (with_reducible repeat (first | apply Kd.R_alloc | apply Kd.R_drewN | apply Kd.R_drew)); exact Kd.R_mono (Kd.R_far (p := ⟨gb112, 1, none⟩) (Kd.R_far (p := ⟨gb112, 0, none⟩) (Kd.R_types HO_13.out BK112.out (by decide)) (fun _ hk => hk.2) (.int .i64 0)) (fun _ hk => hk.2) (.int .i64 0)) (fun _ hk => trivial), by repeat (first | (with_reducible first | exact HB.out | apply below_alloc | apply pw_below_drewN | apply below_drew1 | refine below_set ?_ GE112.out) | exact HB.out)⟩
                · rw [if_neg c22] at H
                  exact absurd H (by simp)
              · rw [if_neg c21] at H
                exact absurd H (by simp)

end Go.Proofs.YtdkhaibibpekoaaDoor.Q
