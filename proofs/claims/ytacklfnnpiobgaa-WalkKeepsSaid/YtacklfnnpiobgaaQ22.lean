-- PRINTED by print.py (a twelfth state) out of the translation. Not trusted: Lean checks it.
import Derived.Test.YtacklfnnpiobgaaQ0
import Derived.Test.YtacklfnnpiobgaaQ21
namespace Go.Proofs.Ytacklfnnpiobgaa.Q
open Go.RowKit Go.Proofs.YtacklfnnpiobgaaW.PrintWords Go.Proofs.YtacklfnnpiobgaaW.PrintLast Go.Proofs.YtacklfnnpiobgaaW.PrintMore
attribute [local go_sem] max2_int min2_int max_two min_two max_three min_three max_four min_four   -- for this text's walks alone
set_option linter.unusedVariables false
set_option linter.unusedSimpArgs false

/-! ### compassref04_Levels: function 14 -/
mutual
def compassref04_Levels.l0 : Nat → Int → List Int → Int → Int → List (S41) → Option (List Int × Int)
  | 0, _, _, _, _, _ => none
  | k + 1, x1, x7, x8, x450000, x450001 => if x8 < x450000 then (if 0 ≤ x8 then (if x8 < (x7.length : Int) then (compassref04_Levels.l0 k x1 (x7.set (x8 : Int).toNat (-1)) (wrap64 (x8 + 1)) x450000 x450001) else (none)) else (none)) else (if 0 ≤ x1 then (if x1 < (x7.length : Int) then (compassref04_Levels.l1 k (x7.set (x1 : Int).toNat 0) 0 x450000 x450001) else (none)) else (none))
def compassref04_Levels.l1 : Nat → List Int → Int → Int → List (S41) → Option (List Int × Int)
  | 0, _, _, _, _ => none
  | k + 1, x7, x9, x450000, x450001 => if x9 < x450000 then (compassref04_Levels.l2 k x7 x9 0 x450000 x450001) else (some (x7, 0))
def compassref04_Levels.l2 : Nat → List Int → Int → Int → Int → List (S41) → Option (List Int × Int)
  | 0, _, _, _, _, _ => none
  | k + 1, x7, x9, x10, x450000, x450001 => if x10 < (x450001.length : Int) then (if 0 ≤ x10 then (if 0 ≤ ((rd_T41 x450001 x10).f0) then (if ((rd_T41 x450001 x10).f0) < (x7.length : Int) then (if (rd x7 ((rd_T41 x450001 x10).f0)) = x9 then (if 0 ≤ ((rd_T41 x450001 x10).f1) then (if ((rd_T41 x450001 x10).f1) < (x7.length : Int) then (if (rd x7 ((rd_T41 x450001 x10).f1)) < 0 then (compassref04_Levels.l2 k (x7.set (((rd_T41 x450001 x10).f1) : Int).toNat (wrap64 (x9 + 1))) x9 (wrap64 (x10 + 1)) x450000 x450001) else (compassref04_Levels.l2 k x7 x9 (wrap64 (x10 + 1)) x450000 x450001)) else (none)) else (none)) else (compassref04_Levels.l2 k x7 x9 (wrap64 (x10 + 1)) x450000 x450001)) else (none)) else (none)) else (none)) else (compassref04_Levels.l1 k x7 (wrap64 (x9 + 1)) x450000 x450001)
end
def compassref04_Levels.f (k : Nat) (a0_0 : Int) (l0_1 : List (S41)) (a1 : Int) : Option (List Int × Int) := (compassref04_Wrong.f k a0_0 l0_1 a1).bind fun t450 => (if t450 = 0 then (if 0 ≤ a0_0 then (if (a0_0 : Int).toNat ≤ 35184372088832 then (compassref04_Levels.l0 k a1 (List.replicate (a0_0 : Int).toNat 0) 0 a0_0 l0_1) else (none)) else (none)) else (some (([] : List Int), t450)))
theorem compassref04_Levels.mono_l : ∀ k, (∀ y0 y1 y2 y3 y4, LeO (compassref04_Levels.l0 k y0 y1 y2 y3 y4) (compassref04_Levels.l0 (k + 1) y0 y1 y2 y3 y4)) ∧ (∀ y0 y1 y2 y3, LeO (compassref04_Levels.l1 k y0 y1 y2 y3) (compassref04_Levels.l1 (k + 1) y0 y1 y2 y3)) ∧ (∀ y0 y1 y2 y3 y4, LeO (compassref04_Levels.l2 k y0 y1 y2 y3 y4) (compassref04_Levels.l2 (k + 1) y0 y1 y2 y3 y4))
  | 0 => ⟨fun _ _ _ _ _ r h => by simp [compassref04_Levels.l0] at h, fun _ _ _ _ r h => by simp [compassref04_Levels.l1] at h, fun _ _ _ _ _ r h => by simp [compassref04_Levels.l2] at h⟩
  | k + 1 => by
    obtain ⟨ih0, ih1, ih2⟩ := compassref04_Levels.mono_l k
    refine ⟨?_, ?_, ?_⟩
    · intro y0 y1 y2 y3 y4
      unfold compassref04_Levels.l0
      repeat' first
      | (with_reducible exact ih0 _ _ _ _ _)
      | (with_reducible exact ih1 _ _ _ _)
      | (with_reducible exact ih2 _ _ _ _ _)
      | (with_reducible exact compassref04_Wrong.mono _ _ _ _)
      | (with_reducible exact LeO.refl _)
      | (with_reducible exact LeO.none _)
      | (with_reducible refine LeO.ite ?_ ?_)
      | (with_reducible refine LeO.bind ?_ (fun _ => ?_))
      | exact ih0 _ _ _ _ _
      | exact ih1 _ _ _ _
      | exact ih2 _ _ _ _ _
      | exact compassref04_Wrong.mono _ _ _ _
      | exact LeO.none _
      | refine LeO.ite ?_ ?_
      | refine LeO.bind ?_ (fun _ => ?_)
    · intro y0 y1 y2 y3
      unfold compassref04_Levels.l1
      repeat' first
      | (with_reducible exact ih0 _ _ _ _ _)
      | (with_reducible exact ih1 _ _ _ _)
      | (with_reducible exact ih2 _ _ _ _ _)
      | (with_reducible exact compassref04_Wrong.mono _ _ _ _)
      | (with_reducible exact LeO.refl _)
      | (with_reducible exact LeO.none _)
      | (with_reducible refine LeO.ite ?_ ?_)
      | (with_reducible refine LeO.bind ?_ (fun _ => ?_))
      | exact ih0 _ _ _ _ _
      | exact ih1 _ _ _ _
      | exact ih2 _ _ _ _ _
      | exact compassref04_Wrong.mono _ _ _ _
      | exact LeO.none _
      | refine LeO.ite ?_ ?_
      | refine LeO.bind ?_ (fun _ => ?_)
    · intro y0 y1 y2 y3 y4
      unfold compassref04_Levels.l2
      repeat' first
      | (with_reducible exact ih0 _ _ _ _ _)
      | (with_reducible exact ih1 _ _ _ _)
      | (with_reducible exact ih2 _ _ _ _ _)
      | (with_reducible exact compassref04_Wrong.mono _ _ _ _)
      | (with_reducible exact LeO.refl _)
      | (with_reducible exact LeO.none _)
      | (with_reducible refine LeO.ite ?_ ?_)
      | (with_reducible refine LeO.bind ?_ (fun _ => ?_))
      | exact ih0 _ _ _ _ _
      | exact ih1 _ _ _ _
      | exact ih2 _ _ _ _ _
      | exact compassref04_Wrong.mono _ _ _ _
      | exact LeO.none _
      | refine LeO.ite ?_ ?_
      | refine LeO.bind ?_ (fun _ => ?_)
theorem compassref04_Levels.mono : ∀ a0 a1 a2 k, LeO (compassref04_Levels.f k a0 a1 a2) (compassref04_Levels.f (k + 1) a0 a1 a2) := by
  intro a0 a1 a2 k
  obtain ⟨ih0, ih1, ih2⟩ := compassref04_Levels.mono_l k
  unfold compassref04_Levels.f
  repeat' first
      | (with_reducible exact ih0 _ _ _ _ _)
      | (with_reducible exact ih1 _ _ _ _)
      | (with_reducible exact ih2 _ _ _ _ _)
      | (with_reducible exact compassref04_Wrong.mono _ _ _ _)
      | (with_reducible exact LeO.refl _)
      | (with_reducible exact LeO.none _)
      | (with_reducible refine LeO.ite ?_ ?_)
      | (with_reducible refine LeO.bind ?_ (fun _ => ?_))
      | exact ih0 _ _ _ _ _
      | exact ih1 _ _ _ _
      | exact ih2 _ _ _ _ _
      | exact compassref04_Wrong.mono _ _ _ _
      | exact LeO.none _
      | refine LeO.ite ?_ ?_
      | refine LeO.bind ?_ (fun _ => ?_)
set_option maxHeartbeats 8000000 in
set_option maxRecDepth 100000 in
theorem compassref04_Levels.calls (k : Nat) (a0_0 : Int) (A0_1 : Option Addr) (c0_1 : Nat) (l0_1 : List (S41)) (a1 : Int) (r1 : List Int) (r2 : Int) (w : World) (hr0_1 : Kd.C k41 w A0_1 l0_1.length l0_1) (hc0_1 : l0_1.length ≤ c0_1) (h : compassref04_Levels.f k a0_0 l0_1 a1 = some (r1, r2)) :
    Calls Try.prog 14 #[.agg #[.int .i64 a0_0, .slice A0_1 l0_1.length c0_1], .int .i64 a1] w fun e w' => ∃ v0_ : Value, e = .returned (.tuple #[v0_, .int .i64 r2]) ∧ Kd.R (Kd.int .i64) 3 w' w.heap.size (fun _ => True) v0_ r1 ∧ Below w.heap.size w w' := by
 have hu24 := Try.underlying24
 have hu41 := Try.underlying41
 have HR0_1 := ak hr0_1
 have HC0_1 := ak hc0_1
 clear hr0_1 hc0_1
 have HB := ak (Below.refl w.heap.size w)
 have H : ((compassref04_Wrong.f k a0_0 l0_1 a1).bind fun t450 => (if t450 = 0 then (if 0 ≤ a0_0 then (if (a0_0 : Int).toNat ≤ 35184372088832 then (compassref04_Levels.l0 k a1 (List.replicate (a0_0 : Int).toNat 0) 0 a0_0 l0_1) else (none)) else (none)) else (some (([] : List Int), t450)))) = some (r1, r2) := h
 clear h
 replace H := Option.bind_eq_some_iff.mp H
 obtain ⟨t450, A30, H⟩ := H
 replace H : (if t450 = 0 then (if 0 ≤ a0_0 then (if (a0_0 : Int).toNat ≤ 35184372088832 then (compassref04_Levels.l0 k a1 (List.replicate (a0_0 : Int).toNat 0) 0 a0_0 l0_1) else (none)) else (none)) else (some (([] : List Int), t450))) = some (r1, r2) := H
 have A3 := ak A30
 clear A30
 by_cases c4 : t450 = 0
 ·
  rw [if_pos c4] at H
  have c4b0 : (t450 == 0) = true := beq_iff_eq.mpr c4
  have c4b1 : (t450 != 0) = false := bne_eq_false_iff_eq.mpr c4
  clear c4
  by_cases c5 : 0 ≤ a0_0
  rotate_left
  ·
   rw [if_neg c5] at H
   exact absurd H (by simp)
  rw [if_pos c5] at H
  have c5b0 := eq_true c5
  have c5b1 : decide (0 ≤ a0_0) = true := decide_eq_true c5
  clear c5
  by_cases c6 : (a0_0 : Int).toNat ≤ 35184372088832
  rotate_left
  ·
   rw [if_neg c6] at H
   exact absurd H (by simp)
  rw [if_pos c6] at H
  have c6b0 := eq_true c6
  have c6b1 : decide ((a0_0 : Int).toNat ≤ 35184372088832) = true := decide_eq_true c6
  clear c6
  obtain ⟨y451, hy451⟩ : ∃ y_ : List Int, y_ = (List.replicate (a0_0 : Int).toNat 0) := ⟨_, rfl⟩
  replace H : (compassref04_Levels.l0 k a1 y451 0 a0_0 l0_1) = some (r1, r2) := by first | (rw [hy451]; exact H) | exact H
  have Ny451 := ak hy451
  clear hy451
  have H' := ak H
  clear H
  go_enter Try.func14, Try.ntmps14
  go_wp2_with (first | ((with_reducible refine gate_dst (N := 2) rfl ?_); refine box_event ?hg (N := 2) ?hd (cs := #[.int .i64 a0_0, .slice A0_1 l0_1.length c0_1]) (t := 24) ?hr ?_; (case hd => rfl); (case hg => rfl); (case hr => first | (go_simp; done) | (go_simp; rfl)); intro gb449 hg w7 hbox hb; have n0_ := ak (below_step lb hb); have n1_ := ak (hbox); have n2_ := ak ((by rw [hg]; exact (below_size lb) : w.heap.size ≤ gb449)); have n3_ := ak ((by rw [hg]; exact (below_size lb) : w.heap.size ≤ gb449)); clear HB; have HB := n0_; have BK449 := n1_; have GW449 := n2_; have GE449 := n3_; clear n0_ n1_ n2_ n3_; clear hb hbox hg; have hcz8_0 : w7.cell? ⟨gb449, 0, none⟩ = some (.int .i64 a0_0) := (blk_cell BK449.out 0).trans rfl; have hcz8_1 : w7.cell? ⟨gb449, 1, none⟩ = some (.slice A0_1 l0_1.length c0_1) := (blk_cell BK449.out 1).trans rfl; have hfz8_0 := blk_frozen BK449.out 0; have hfz8_1 := blk_frozen BK449.out 1) | ((with_reducible refine gate_callee (f := 32) rfl ?_); refine goesL_ (some 14) rfl rfl Try.func32 (by kernel_rfl) rfl #[.agg #[.int .i64 a0_0, .slice A0_1 l0_1.length c0_1], .int .i64 a1] rfl (by (try simp only [List.map_toArray, List.map_cons, List.map_nil]); first | done | rfl | (simp only [List.length_drop, List.length_take]; rfl)) ?_; (with_reducible refine (compassref04_Wrong.calls k a0_0 _ _ l0_1 a1 t450 _ ?side1 ?side2 A3.out).mono ?_); (case side1 => repeat (first | exact (Kd.C_below HR0_1.out HB.out) | (with_reducible refine Kd.C_alloc ?_ _) | (with_reducible refine Kd.C_drewN ?_ _) | (with_reducible refine Kd.C_drew ?_))); (case side2 => exact HC0_1.out); rintro e w9 ⟨rfl, hb⟩; refine ⟨_, rfl, ?_⟩; have n0_ := ak (blk_below (bx BK449.out) hb); have n1_ := ak (below_step lb hb); clear BK449; clear HB; have BK449 := n0_; have HB := n1_; clear n0_ n1_; (try clear hb); (try clear hb2); (try clear hk); (try clear hi); have hcz10_0 : w9.cell? ⟨gb449, 0, none⟩ = some (.int .i64 a0_0) := (blk_cell BK449.out 0).trans rfl; have hcz10_1 : w9.cell? ⟨gb449, 1, none⟩ = some (.slice A0_1 l0_1.length c0_1) := (blk_cell BK449.out 1).trans rfl; have hfz10_0 := blk_frozen BK449.out 0; have hfz10_1 := blk_frozen BK449.out 1) | ((with_reducible refine gate_dst (N := 20) rfl ?_); refine Kd.R_make (Kd.int .i64) _ 3 rfl (N := 20) rfl 26 _ _ rfl a0_0 rfl rfl Try.underlying26 (.int .i64 0) 8 info3 rfl (by decide) (by omega) 0 (ok := fun _ => True) (okp := fun _ => True) rfl (fun _ hk => hk) trivial (oda) (Nat.le_trans (Nat.mul_le_mul_right _ (oda : a0_0.toNat ≤ 35184372088832)) (by omega)) (Below.refl _ _) (Nat.le_refl _) ?_; intro v452 w11 ho12 hb hg_ hnew_; clear hg_ hnew_; (first | rw [← Ny451.out] at ho12 | (simp only [Int.reduceToNat] at ho12; rw [← Ny451.out] at ho12)); have n0_ := ak (Kd.R_lower ho12 (below_size lb)); have n1_ := ak (blk_below (bx BK449.out) hb); have n2_ := ak (below_step lb hb); clear BK449; clear HB; have HO453 := n0_; have BK449 := n1_; have HB := n2_; clear n0_ n1_ n2_; clear hb ho12))
  go_loopg [8] k (fun kq v8 w' => ∃ (x7_1 : List Int) (x8_1 : Int), v8 = .int .i64 x8_1 ∧ Aside0 (compassref04_Levels.l0 kq a1 x7_1 x8_1 a0_0 l0_1 = some (r1, r2)) ∧ Aside0 (kq ≤ k) ∧ Aside0 (Kd.R (Kd.int .i64) 3 w' w.heap.size (fun _ => True) v452 x7_1) ∧ Aside0 (w'.heap[gb449]? = some (.cells #[.int .i64 a0_0, (.slice A0_1 l0_1.length c0_1)] 24 (0, 0))) ∧ Aside0 (Below w.heap.size w w'))
  case atStart => exact ⟨(y451), (0), (by first | rfl | (simp [*]; done)), H', ⟨Nat.le_refl _⟩, ⟨rx HO453.out⟩, ⟨bx BK449.out⟩, ⟨lb⟩⟩
  case round =>
   clear H'
   try clear c1; try clear p2; try clear c3; try clear c4; try clear c4b0; try clear c4b1; try clear c5; try clear c5b0; try clear c5b1; try clear c6; try clear c6b0; try clear c6b1; try clear hcz10_0; try clear hcz10_1; try clear hcz8_0; try clear hcz8_1; try clear hfz10_0; try clear hfz10_1; try clear hfz8_0; try clear hfz8_1
   obtain ⟨x7_1, x8_1, rfl, HA, HK1, HO_7, BK449, HB⟩ := hrel
   cases gk with
   | zero => exact absurd HA.out (by simp [compassref04_Levels.l0])
   | succ k1 =>
    have H := HA.out
    clear HA
    simp only [compassref04_Levels.l0] at H
    by_cases c13 : x8_1 < a0_0
    ·
     rw [if_pos c13] at H
     have c13b0 : decide (x8_1 < a0_0) = true := decide_eq_true c13
     clear c13
     by_cases c14 : 0 ≤ x8_1
     rotate_left
     ·
      rw [if_neg c14] at H
      exact absurd H (by simp)
     rw [if_pos c14] at H
     have c14b0 : decide (0 ≤ x8_1) = true := decide_eq_true c14
     clear c14
     by_cases c15 : x8_1 < (x7_1.length : Int)
     rotate_left
     ·
      rw [if_neg c15] at H
      exact absurd H (by simp)
     rw [if_pos c15] at H
     have c15b0 : decide (x8_1 < (x7_1.length : Int)) = true := decide_eq_true c15
     clear c15
     obtain ⟨y454, hy454⟩ : ∃ y_ : List Int, y_ = (x7_1.set (x8_1 : Int).toNat (-1)) := ⟨_, rfl⟩
     replace H : (compassref04_Levels.l0 k1 a1 y454 (wrap64 (x8_1 + 1)) a0_0 l0_1) = some (r1, r2) := by first | (rw [hy454]; exact H) | exact H
     have Ny454 := ak hy454
     clear hy454
     have H' := ak H
     clear H
     have hcz17_0 : wr.cell? ⟨gb449, 0, none⟩ = some (.int .i64 a0_0) := (blk_cell BK449.out 0).trans rfl
     have hcz17_1 : wr.cell? ⟨gb449, 1, none⟩ = some (.slice A0_1 l0_1.length c0_1) := (blk_cell BK449.out 1).trans rfl
     have hfz17_0 := blk_frozen BK449.out 0
     have hfz17_1 := blk_frozen BK449.out 1
     have p16 : 0 ≤ (x8_1 : Int) := oda
     have q16 : (x8_1 : Int) < ((x7_1.length : Int) : Int) := oda
     obtain ⟨go16, co16, eo16, gb16, gl16, cl16, HG16⟩ := Kd.R_form HO_7.out (by omega)
     (first | cases eo16 | (injection eo16 with ea_ en_ ec_; (first | subst ea_ | (injection ea_ with ea_; subst ea_)); subst ec_; clear en_))
     have GB16 := ak gb16
     have GG16 := ak HG16
     clear gb16 gl16 HG16
     obtain ⟨hx16_0, hf16_0⟩ := Kd.R_celln 0 HO_7.out (x8_1 : Int) p16 q16
     replace p16 := eq_true p16
     replace q16 := eq_true q16
     have HP18 := Kd.R_putg HO_7.out (x8_1 : Int) (-1)
     go_wp2_with (first | ((with_reducible refine gate_store (t := 3) (p := 29) rfl ?_); refine store_event (t := 3) (p := 29) (v := ?vo_w19) (w1 := (wr.setCell ⟨go16, (x8_1 : Int).toNat, none⟩ (.int .i64 (-1)))) ?hg ?ho ?hn ?hr ?_; (case ho => rfl); (case hg => rfl); (case hn => rfl); (case hr => first | (go_simp; done) | (go_simp; rfl)); intro w19 hw; have hg : wr.grownBy w19 (some go16) := (by rw [hw]; exact HP18.2); have hp_ : Kd.R (Kd.int .i64) 3 w19 w.heap.size (fun _ => True) (.slice (some ⟨go16, 0, none⟩) x7_1.length co16) y454 := (by rw [hw, Ny454.out]; exact HP18.1); clear HP18; have n0_ := ak (hp_); have n1_ := ak (blk_grown (bx BK449.out) hg (Kd.R_ne HO_7.out BK449.out (by decide))); have n2_ := ak ((by rw [hw]; exact below_set (HB.out) GB16.out : Below w.heap.size w w19)); clear HO_7; clear BK449; clear HB; have HO_7 := n0_; have BK449 := n1_; have HB := n2_; clear n0_ n1_ n2_; clear hg hw hp_))
     go_roundg k1
     case measure => have := HK1.out; omega
     case rel => exact ⟨(y454), (wrap64 (x8_1 + 1)), (by first | rfl | (simp [*]; done)), H', ⟨by have := HK1.out; omega⟩, ⟨rx HO_7.out⟩, ⟨bx BK449.out⟩, ⟨lb⟩⟩
    ·
     rw [if_neg c13] at H
     have c13b0 : decide (x8_1 < a0_0) = false := decide_eq_false c13
     clear c13
     by_cases c20 : 0 ≤ a1
     rotate_left
     ·
      rw [if_neg c20] at H
      exact absurd H (by simp)
     rw [if_pos c20] at H
     have c20b0 : decide (0 ≤ a1) = true := decide_eq_true c20
     clear c20
     by_cases c21 : a1 < (x7_1.length : Int)
     rotate_left
     ·
      rw [if_neg c21] at H
      exact absurd H (by simp)
     rw [if_pos c21] at H
     have c21b0 : decide (a1 < (x7_1.length : Int)) = true := decide_eq_true c21
     clear c21
     obtain ⟨y455, hy455⟩ : ∃ y_ : List Int, y_ = (x7_1.set (a1 : Int).toNat 0) := ⟨_, rfl⟩
     replace H : (compassref04_Levels.l1 k1 y455 0 a0_0 l0_1) = some (r1, r2) := by first | (rw [hy455]; exact H) | exact H
     have Ny455 := ak hy455
     clear hy455
     have H' := ak H
     clear H
     have hcz23_0 : wr.cell? ⟨gb449, 0, none⟩ = some (.int .i64 a0_0) := (blk_cell BK449.out 0).trans rfl
     have hcz23_1 : wr.cell? ⟨gb449, 1, none⟩ = some (.slice A0_1 l0_1.length c0_1) := (blk_cell BK449.out 1).trans rfl
     have hfz23_0 := blk_frozen BK449.out 0
     have hfz23_1 := blk_frozen BK449.out 1
     have p22 : 0 ≤ (a1 : Int) := oda
     have q22 : (a1 : Int) < ((x7_1.length : Int) : Int) := oda
     obtain ⟨go22, co22, eo22, gb22, gl22, cl22, HG22⟩ := Kd.R_form HO_7.out (by omega)
     (first | cases eo22 | (injection eo22 with ea_ en_ ec_; (first | subst ea_ | (injection ea_ with ea_; subst ea_)); subst ec_; clear en_))
     have GB22 := ak gb22
     have GG22 := ak HG22
     clear gb22 gl22 HG22
     obtain ⟨hx22_0, hf22_0⟩ := Kd.R_celln 0 HO_7.out (a1 : Int) p22 q22
     replace p22 := eq_true p22
     replace q22 := eq_true q22
     have HP24 := Kd.R_putg HO_7.out (a1 : Int) 0
     go_wp2_with (first | ((with_reducible refine gate_store (t := 3) (p := 32) rfl ?_); refine store_event (t := 3) (p := 32) (v := ?vo_w25) (w1 := (wr.setCell ⟨go22, (a1 : Int).toNat, none⟩ (.int .i64 0))) ?hg ?ho ?hn ?hr ?_; (case ho => rfl); (case hg => rfl); (case hn => rfl); (case hr => first | (go_simp; done) | (go_simp; rfl)); intro w25 hw; have hg : wr.grownBy w25 (some go22) := (by rw [hw]; exact HP24.2); have hp_ : Kd.R (Kd.int .i64) 3 w25 w.heap.size (fun _ => True) (.slice (some ⟨go22, 0, none⟩) x7_1.length co22) y455 := (by rw [hw, Ny455.out]; exact HP24.1); clear HP24; have n0_ := ak (hp_); have n1_ := ak (blk_grown (bx BK449.out) hg (Kd.R_ne HO_7.out BK449.out (by decide))); have n2_ := ak ((by rw [hw]; exact below_set (HB.out) GB22.out : Below w.heap.size w w25)); clear HO_7; clear BK449; clear HB; have HO_7 := n0_; have BK449 := n1_; have HB := n2_; clear n0_ n1_ n2_; clear hg hw hp_))
     go_loopg [9] k1 (fun kq v9 w' => ∃ (x7_2 : List Int) (x9_2 : Int), v9 = .int .i64 x9_2 ∧ Aside0 (compassref04_Levels.l1 kq x7_2 x9_2 a0_0 l0_1 = some (r1, r2)) ∧ Aside0 (kq ≤ k1) ∧ Aside0 (Kd.R (Kd.int .i64) 3 w' w.heap.size (fun _ => True) (.slice (some ⟨go22, 0, none⟩) x7_1.length co22) x7_2) ∧ Aside0 (w'.heap[gb449]? = some (.cells #[.int .i64 a0_0, (.slice A0_1 l0_1.length c0_1)] 24 (0, 0))) ∧ Aside0 (Below w.heap.size w w'))
     case atStart => exact ⟨(y455), (0), (by first | rfl | (simp [*]; done)), H', ⟨Nat.le_refl _⟩, ⟨rx HO_7.out⟩, ⟨bx BK449.out⟩, ⟨lb⟩⟩
     case round =>
      clear H'
      try clear c1; try clear p1; try clear q1; try clear hx1; try clear c2; try clear p2; try clear q2; try clear hx2; try clear hf2; try clear c3; try clear c4; try clear c4b0; try clear c4b1; try clear c5; try clear c5b0; try clear c5b1; try clear c6; try clear c6b0; try clear c6b1; try clear p6; try clear c13; try clear c13b0; try clear c14; try clear c14b0; try clear c15; try clear c15b0; try clear p16; try clear q16; try clear hx16; try clear hf16; try clear c20; try clear c20b0; try clear c21; try clear c21b0; try clear p22; try clear q22; try clear hx22; try clear hf22; try clear hcz10_0; try clear hcz10_1; try clear hcz17_0; try clear hcz17_1; try clear hcz23_0; try clear hcz23_1; try clear hcz8_0; try clear hcz8_1; try clear hfz10_0; try clear hfz10_1; try clear hfz17_0; try clear hfz17_1; try clear hfz23_0; try clear hfz23_1; try clear hfz8_0; try clear hfz8_1; try clear hx16_0; try clear hx22_0; try clear p16; try clear p2; try clear p22; try clear q16; try clear q22
      obtain ⟨x7_2, x9_2, rfl, HA, HK2, HO_7, BK449, HB⟩ := hrel
      have hl7_2 := (Kd.R_reads' HO_7.out).1
      rw [hl7_2] at HO_7
      (try simp only [hl7_2])
      (try simp only [hl7_2] at BK449)
      cases gk with
      | zero => exact absurd HA.out (by simp [compassref04_Levels.l1])
      | succ k2 =>
       have H := HA.out
       clear HA
       simp only [compassref04_Levels.l1] at H
       by_cases c26 : x9_2 < a0_0
       ·
        rw [if_pos c26] at H
        have c26b0 : decide (x9_2 < a0_0) = true := decide_eq_true c26
        clear c26
        have H' := ak H
        clear H
        have hcz27_0 : wr.cell? ⟨gb449, 0, none⟩ = some (.int .i64 a0_0) := (blk_cell BK449.out 0).trans rfl
        have hcz27_1 : wr.cell? ⟨gb449, 1, none⟩ = some (.slice A0_1 l0_1.length c0_1) := (blk_cell BK449.out 1).trans rfl
        have hfz27_0 := blk_frozen BK449.out 0
        have hfz27_1 := blk_frozen BK449.out 1
        go_wp2
        go_loopg [10] k2 (fun kq v10 w' => ∃ (x7_3 : List Int) (x10_3 : Int), v10 = .int .i64 x10_3 ∧ Aside0 (compassref04_Levels.l2 kq x7_3 x9_2 x10_3 a0_0 l0_1 = some (r1, r2)) ∧ Aside0 (kq ≤ k2) ∧ Aside0 (Kd.R (Kd.int .i64) 3 w' w.heap.size (fun _ => True) (.slice (some ⟨go22, 0, none⟩) x7_2.length co22) x7_3) ∧ Aside0 (w'.heap[gb449]? = some (.cells #[.int .i64 a0_0, (.slice A0_1 l0_1.length c0_1)] 24 (0, 0))) ∧ Aside0 (Below w.heap.size w w'))
        case atStart => exact ⟨(x7_2), (0), (by first | rfl | (simp [*]; done)), H', ⟨Nat.le_refl _⟩, ⟨by (try simp only [hl7_2]); exact rx HO_7.out⟩, ⟨by (try simp only [hl7_2]); exact bx BK449.out⟩, ⟨lb⟩⟩
        case round =>
         clear H'
         try clear c1; try clear p1; try clear q1; try clear hx1; try clear c2; try clear p2; try clear q2; try clear hx2; try clear hf2; try clear c3; try clear c4; try clear c4b0; try clear c4b1; try clear c5; try clear c5b0; try clear c5b1; try clear c6; try clear c6b0; try clear c6b1; try clear p6; try clear c13; try clear c13b0; try clear c14; try clear c14b0; try clear c15; try clear c15b0; try clear p16; try clear q16; try clear hx16; try clear hf16; try clear c20; try clear c20b0; try clear c21; try clear c21b0; try clear p22; try clear q22; try clear hx22; try clear hf22; try clear c26; try clear c26b0; try clear hcz10_0; try clear hcz10_1; try clear hcz17_0; try clear hcz17_1; try clear hcz23_0; try clear hcz23_1; try clear hcz27_0; try clear hcz27_1; try clear hcz8_0; try clear hcz8_1; try clear hfz10_0; try clear hfz10_1; try clear hfz17_0; try clear hfz17_1; try clear hfz23_0; try clear hfz23_1; try clear hfz27_0; try clear hfz27_1; try clear hfz8_0; try clear hfz8_1; try clear hx16_0; try clear hx22_0; try clear p1; try clear p16; try clear p2; try clear p22; try clear p6; try clear q1; try clear q16; try clear q2; try clear q22
         obtain ⟨x7_3, x10_3, rfl, HA, HK3, HO_7, BK449, HB⟩ := hrel
         have hl7_3 := (Kd.R_reads' HO_7.out).1
         rw [hl7_3] at HO_7
         (try simp only [hl7_3])
         (try simp only [hl7_3] at BK449)
         cases gk with
         | zero => exact absurd HA.out (by simp [compassref04_Levels.l2])
         | succ k3 =>
          have H := HA.out
          clear HA
          simp only [compassref04_Levels.l2] at H
          by_cases c28 : x10_3 < (l0_1.length : Int)
          ·
           rw [if_pos c28] at H
           have c28b0 : decide (x10_3 < (l0_1.length : Int)) = true := decide_eq_true c28
           clear c28
           by_cases c29 : 0 ≤ x10_3
           rotate_left
           ·
            rw [if_neg c29] at H
            exact absurd H (by simp)
           rw [if_pos c29] at H
           have c29b0 : decide (0 ≤ x10_3) = true := decide_eq_true c29
           clear c29
           by_cases c30 : 0 ≤ ((rd_T41 l0_1 x10_3).f0)
           rotate_left
           ·
            rw [if_neg c30] at H
            exact absurd H (by simp)
           rw [if_pos c30] at H
           have c30b0 : decide (0 ≤ ((rd_T41 l0_1 x10_3).f0)) = true := decide_eq_true c30
           clear c30
           by_cases c31 : ((rd_T41 l0_1 x10_3).f0) < (x7_3.length : Int)
           rotate_left
           ·
            rw [if_neg c31] at H
            exact absurd H (by simp)
           rw [if_pos c31] at H
           have c31b0 : decide (((rd_T41 l0_1 x10_3).f0) < (x7_3.length : Int)) = true := decide_eq_true c31
           clear c31
           by_cases c32 : (rd x7_3 ((rd_T41 l0_1 x10_3).f0)) = x9_2
           ·
            rw [if_pos c32] at H
            have c32b0 : ((rd x7_3 ((rd_T41 l0_1 x10_3).f0)) == x9_2) = true := beq_iff_eq.mpr c32
            have c32b1 : ((rd x7_3 ((rd_T41 l0_1 x10_3).f0)) != x9_2) = false := bne_eq_false_iff_eq.mpr c32
            clear c32
            by_cases c33 : 0 ≤ ((rd_T41 l0_1 x10_3).f1)
            rotate_left
            ·
             rw [if_neg c33] at H
             exact absurd H (by simp)
            rw [if_pos c33] at H
            have c33b0 : decide (0 ≤ ((rd_T41 l0_1 x10_3).f1)) = true := decide_eq_true c33
            clear c33
            by_cases c34 : ((rd_T41 l0_1 x10_3).f1) < (x7_3.length : Int)
            rotate_left
            ·
             rw [if_neg c34] at H
             exact absurd H (by simp)
            rw [if_pos c34] at H
            have c34b0 : decide (((rd_T41 l0_1 x10_3).f1) < (x7_3.length : Int)) = true := decide_eq_true c34
            clear c34
            by_cases c35 : (rd x7_3 ((rd_T41 l0_1 x10_3).f1)) < 0
            ·
             rw [if_pos c35] at H
             have c35b0 : decide ((rd x7_3 ((rd_T41 l0_1 x10_3).f1)) < 0) = true := decide_eq_true c35
             clear c35
             obtain ⟨y460, hy460⟩ : ∃ y_ : List Int, y_ = (x7_3.set (((rd_T41 l0_1 x10_3).f1) : Int).toNat (wrap64 (x9_2 + 1))) := ⟨_, rfl⟩
             replace H : (compassref04_Levels.l2 k3 y460 x9_2 (wrap64 (x10_3 + 1)) a0_0 l0_1) = some (r1, r2) := by first | (rw [hy460]; exact H) | exact H
             have Ny460 := ak hy460
             clear hy460
             have H' := ak H
             clear H
             have hcz37_0 : wr.cell? ⟨gb449, 0, none⟩ = some (.int .i64 a0_0) := (blk_cell BK449.out 0).trans rfl
             have hcz37_1 : wr.cell? ⟨gb449, 1, none⟩ = some (.slice A0_1 l0_1.length c0_1) := (blk_cell BK449.out 1).trans rfl
             have hfz37_0 := blk_frozen BK449.out 0
             have hfz37_1 := blk_frozen BK449.out 1
             have p456 : 0 ≤ (x10_3 : Int) := oda
             have q456 : x10_3 < (l0_1.length : Int) := oda
             obtain ⟨ad456, e456, hx456_0, hx456_1, hx456_2, hx456_3⟩ := at_T41 HR0_1.out x10_3 p456 q456
             cases e456
             (try replace hx456_0 := (HB.out.cell (World.block_lt_of_cell? w _ hx456_0)).trans hx456_0)
             (try replace hx456_1 := (HB.out.cell (World.block_lt_of_cell? w _ hx456_1)).trans hx456_1)
             (try replace hx456_2 := (HB.out.cell (World.block_lt_of_cell? w _ hx456_2)).trans hx456_2)
             (try replace hx456_3 := (HB.out.cell (World.block_lt_of_cell? w _ hx456_3)).trans hx456_3)
             replace p456 := eq_true p456
             replace q456 := eq_true q456
             go_wp2_with (first | ((with_reducible refine gate_dst (N := 11) rfl ?_); refine box_event ?hg (N := 11) ?hd (cs := #[.int .i64 0, .int .i64 0, .int .i64 0, .int .i64 0]) (t := 41) ?hr ?_; (case hd => rfl); (case hg => rfl); (case hr => first | (go_simp; done) | (go_simp; rfl)); intro gb457 hg w38 hbox hb; have n0_ := ak (Kd.R_below (rx HO_7.out) hb); have n1_ := ak (blk_below (bx BK449.out) hb); have n2_ := ak (below_step lb hb); have n3_ := ak (hbox); have n4_ := ak ((by rw [hg]; exact (below_size lb) : w.heap.size ≤ gb457)); have n5_ := ak ((by rw [hg]; exact (below_size lb) : w.heap.size ≤ gb457)); have n6_ := ak ((by rw [hg]; exact Nat.ne_of_lt (blk_lt (g := gb449) (o := .cells #[.int .i64 a0_0, .slice (some ad456) l0_1.length c0_1] 24 (0, 0)) (bx BK449.out)) : gb449 ≠ gb457)); have n7_ := ak ((by rw [hg]; exact Nat.ne_of_gt (blk_lt (g := gb449) (o := .cells #[.int .i64 a0_0, .slice (some ad456) l0_1.length c0_1] 24 (0, 0)) (bx BK449.out)) : gb457 ≠ gb449)); clear HO_7; clear BK449; clear HB; have HO_7 := n0_; have BK449 := n1_; have HB := n2_; have BK457 := n3_; have GW457 := n4_; have GE457 := n5_; have NB449_457 := n6_; have NB457_449 := n7_; clear n0_ n1_ n2_ n3_ n4_ n5_ n6_ n7_; clear hb hbox hg; have hnb39 := NB457_449.out; have hnc39 := NB449_457.out; have hcz40_0 : w38.cell? ⟨gb457, 0, none⟩ = some (.int .i64 0) := (blk_cell BK457.out 0).trans rfl; have hcz40_1 : w38.cell? ⟨gb457, 1, none⟩ = some (.int .i64 0) := (blk_cell BK457.out 1).trans rfl; have hcz40_2 : w38.cell? ⟨gb457, 2, none⟩ = some (.int .i64 0) := (blk_cell BK457.out 2).trans rfl; have hcz40_3 : w38.cell? ⟨gb457, 3, none⟩ = some (.int .i64 0) := (blk_cell BK457.out 3).trans rfl; have hfz40_0 := blk_frozen BK457.out 0; have hfz40_1 := blk_frozen BK457.out 1; have hfz40_2 := blk_frozen BK457.out 2; have hfz40_3 := blk_frozen BK457.out 3) | ((with_reducible refine gate_store (t := 41) (p := 11) rfl ?_); refine store_event (t := 41) (p := 11) (v := ?vo_w41) (w1 := ((((w38.setCell ⟨gb457, 0, none⟩ (.int .i64 ((rd_T41 l0_1 x10_3).f0))).setCell ⟨gb457, 1, none⟩ (.int .i64 ((rd_T41 l0_1 x10_3).f1))).setCell ⟨gb457, 2, none⟩ (.int .i64 ((rd_T41 l0_1 x10_3).f2))).setCell ⟨gb457, 3, none⟩ (.int .i64 ((rd_T41 l0_1 x10_3).f3)))) ?hg ?ho ?hn ?hr ?_; (case ho => rfl); (case hg => rfl); (case hn => rfl); (case hr => first | (go_simp; done) | (go_simp; rfl)); intro w41 hw; have n0_ : Aside0 (Kd.R (Kd.int .i64) 3 w41 w.heap.size (fun _ => True) (.slice (some ⟨go22, 0, none⟩) x7_3.length co22) x7_3) := ⟨(by rw [hw]; exact (by exact rx (Kd.R_mono (Kd.R_far (p := ⟨gb457, 3, none⟩) (Kd.R_far (p := ⟨gb457, 2, none⟩) (Kd.R_far (p := ⟨gb457, 1, none⟩) (Kd.R_far (p := ⟨gb457, 0, none⟩) (Kd.R_types HO_7.out BK457.out (by decide)) (fun _ hk => hk.2) (.int .i64 ((rd_T41 l0_1 x10_3).f0))) (fun _ hk => hk.2) (.int .i64 ((rd_T41 l0_1 x10_3).f1))) (fun _ hk => hk.2) (.int .i64 ((rd_T41 l0_1 x10_3).f2))) (fun _ hk => hk.2) (.int .i64 ((rd_T41 l0_1 x10_3).f3))) (fun _ hk => trivial))))⟩; have n1_ : Aside0 (w41.heap[gb449]? = some (.cells #[.int .i64 a0_0, .slice (some ad456) l0_1.length c0_1] 24 (0, 0))) := ⟨(by rw [hw]; exact (by (with_reducible repeat (first | refine blk_drewN ?_ _ | refine blk_drew ?_ | refine blk_alloc ?_ _)); refine blk_far ?_ NB449_457.out _; (with_reducible repeat (first | refine blk_drewN ?_ _ | refine blk_drew ?_ | refine blk_alloc ?_ _)); refine blk_far ?_ NB449_457.out _; (with_reducible repeat (first | refine blk_drewN ?_ _ | refine blk_drew ?_ | refine blk_alloc ?_ _)); refine blk_far ?_ NB449_457.out _; (with_reducible repeat (first | refine blk_drewN ?_ _ | refine blk_drew ?_ | refine blk_alloc ?_ _)); refine blk_far ?_ NB449_457.out _; exact bx BK449.out))⟩; have n2_ : Aside0 (w41.heap[gb457]? = some (.cells #[.int .i64 ((rd_T41 l0_1 x10_3).f0), .int .i64 ((rd_T41 l0_1 x10_3).f1), .int .i64 ((rd_T41 l0_1 x10_3).f2), .int .i64 ((rd_T41 l0_1 x10_3).f3)] 41 (0, 0))) := ⟨(by rw [hw]; exact (by (with_reducible repeat (first | refine blk_drewN ?_ _ | refine blk_drew ?_ | refine blk_alloc ?_ _)); refine blk_put (cs := #[.int .i64 ((rd_T41 l0_1 x10_3).f0), .int .i64 ((rd_T41 l0_1 x10_3).f1), .int .i64 ((rd_T41 l0_1 x10_3).f2), .int .i64 0]) ?_ 3 _ rfl; (with_reducible repeat (first | refine blk_drewN ?_ _ | refine blk_drew ?_ | refine blk_alloc ?_ _)); refine blk_put (cs := #[.int .i64 ((rd_T41 l0_1 x10_3).f0), .int .i64 ((rd_T41 l0_1 x10_3).f1), .int .i64 0, .int .i64 0]) ?_ 2 _ rfl; (with_reducible repeat (first | refine blk_drewN ?_ _ | refine blk_drew ?_ | refine blk_alloc ?_ _)); refine blk_put (cs := #[.int .i64 ((rd_T41 l0_1 x10_3).f0), .int .i64 0, .int .i64 0, .int .i64 0]) ?_ 1 _ rfl; (with_reducible repeat (first | refine blk_drewN ?_ _ | refine blk_drew ?_ | refine blk_alloc ?_ _)); refine blk_put (cs := #[.int .i64 0, .int .i64 0, .int .i64 0, .int .i64 0]) ?_ 0 _ rfl; exact bx BK457.out))⟩; have n3_ : Aside0 (Below w.heap.size w w41) := ⟨(by rw [hw]; exact lb)⟩; clear hw; clear HO_7; clear BK449; clear BK457; clear HB; have HO_7 := n0_; have BK449 := n1_; have BK457 := n2_; have HB := n3_; clear n0_ n1_ n2_ n3_; have hcz42_0 : w41.cell? ⟨gb457, 0, none⟩ = some (.int .i64 ((rd_T41 l0_1 x10_3).f0)) := (blk_cell BK457.out 0).trans rfl; have hcz42_1 : w41.cell? ⟨gb457, 1, none⟩ = some (.int .i64 ((rd_T41 l0_1 x10_3).f1)) := (blk_cell BK457.out 1).trans rfl; have hcz42_2 : w41.cell? ⟨gb457, 2, none⟩ = some (.int .i64 ((rd_T41 l0_1 x10_3).f2)) := (blk_cell BK457.out 2).trans rfl; have hcz42_3 : w41.cell? ⟨gb457, 3, none⟩ = some (.int .i64 ((rd_T41 l0_1 x10_3).f3)) := (blk_cell BK457.out 3).trans rfl; have hfz42_0 := blk_frozen BK457.out 0; have hfz42_1 := blk_frozen BK457.out 1; have hfz42_2 := blk_frozen BK457.out 2; have hfz42_3 := blk_frozen BK457.out 3; have p458 : 0 ≤ (((rd_T41 l0_1 x10_3).f0) : Int) := oda; have q458 : ((rd_T41 l0_1 x10_3).f0) < (x7_3.length : Int) := oda; obtain ⟨ad458, e458, hx458_0⟩ := Kd.at_int (Kd.R_reads' HO_7.out).2.2 ((rd_T41 l0_1 x10_3).f0) p458 q458; obtain rfl : (⟨go22, 0, none⟩ : Addr) = ad458 := (by injection e458); (first | simp only [add_plain] at hx458_0 | simp only [add_at] at hx458_0 | simp only [Addr.add, Nat.zero_add] at hx458_0 | skip); replace p458 := eq_true p458; replace q458 := eq_true q458; have p459 : 0 ≤ (((rd_T41 l0_1 x10_3).f1) : Int) := oda; have q459 : ((rd_T41 l0_1 x10_3).f1) < (x7_3.length : Int) := oda; obtain ⟨ad459, e459, hx459_0⟩ := Kd.at_int (Kd.R_reads' HO_7.out).2.2 ((rd_T41 l0_1 x10_3).f1) p459 q459; obtain rfl : (⟨go22, 0, none⟩ : Addr) = ad459 := (by injection e459); (first | simp only [add_plain] at hx459_0 | simp only [add_at] at hx459_0 | simp only [Addr.add, Nat.zero_add] at hx459_0 | skip); replace p459 := eq_true p459; replace q459 := eq_true q459; have p36 : 0 ≤ (((rd_T41 l0_1 x10_3).f1) : Int) := oda; have q36 : (((rd_T41 l0_1 x10_3).f1) : Int) < ((x7_3.length : Int) : Int) := oda; obtain ⟨hx36_0, hf36_0⟩ := Kd.R_celln 0 HO_7.out (((rd_T41 l0_1 x10_3).f1) : Int) p36 q36; replace p36 := eq_true p36; replace q36 := eq_true q36; obtain ⟨hy43_, hz43_⟩ := Kd.R_celln 0 HO_7.out (((rd_T41 l0_1 x10_3).f1) : Int) (oda) (oda); have HP43 := Kd.R_putg HO_7.out (((rd_T41 l0_1 x10_3).f1) : Int) (wrap64 (x9_2 + 1))) | ((with_reducible refine gate_store (t := 3) (p := 71) rfl ?_); refine store_event (t := 3) (p := 71) (v := ?vo_w44) (w1 := (w41.setCell ⟨go22, (((rd_T41 l0_1 x10_3).f1) : Int).toNat, none⟩ (.int .i64 (wrap64 (x9_2 + 1))))) ?hg ?ho ?hn ?hr ?_; (case ho => rfl); (case hg => rfl); (case hn => rfl); (case hr => first | (go_simp; done) | (go_simp; rfl)); intro w44 hw; have hg : w41.grownBy w44 (some go22) := (by rw [hw]; exact HP43.2); have hp_ : Kd.R (Kd.int .i64) 3 w44 w.heap.size (fun _ => True) (.slice (some ⟨go22, 0, none⟩) x7_3.length co22) y460 := (by rw [hw, Ny460.out]; exact HP43.1); clear HP43; have n0_ := ak (hp_); have n1_ := ak (blk_grown (bx BK449.out) hg (Kd.R_ne HO_7.out BK449.out (by decide))); have n2_ := ak (blk_grown (bx BK457.out) hg (Kd.R_ne HO_7.out BK457.out (by decide))); have n3_ := ak ((by rw [hw]; exact below_set (HB.out) GB22.out : Below w.heap.size w w44)); clear HO_7; clear BK449; clear BK457; clear HB; have HO_7 := n0_; have BK449 := n1_; have BK457 := n2_; have HB := n3_; clear n0_ n1_ n2_ n3_; clear hg hw hp_))
             (try simp only [← hl7_3])
             go_roundg k3
             case measure => have := HK1.out; have := HK2.out; have := HK3.out; omega
             case rel => exact ⟨(y460), (wrap64 (x10_3 + 1)), (by first | rfl | (simp [*]; done)), H', ⟨by have := HK1.out; have := HK2.out; have := HK3.out; omega⟩, ⟨by (try simp only [hl7_2]); (try simp only [hl7_3]); exact rx HO_7.out⟩, ⟨by (try simp only [hl7_2]); (try simp only [hl7_3]); exact bx BK449.out⟩, ⟨lb⟩⟩
            ·
             rw [if_neg c35] at H
             have c35b0 : decide ((rd x7_3 ((rd_T41 l0_1 x10_3).f1)) < 0) = false := decide_eq_false c35
             clear c35
             have H' := ak H
             clear H
             have hcz45_0 : wr.cell? ⟨gb449, 0, none⟩ = some (.int .i64 a0_0) := (blk_cell BK449.out 0).trans rfl
             have hcz45_1 : wr.cell? ⟨gb449, 1, none⟩ = some (.slice A0_1 l0_1.length c0_1) := (blk_cell BK449.out 1).trans rfl
             have hfz45_0 := blk_frozen BK449.out 0
             have hfz45_1 := blk_frozen BK449.out 1
             have p456 : 0 ≤ (x10_3 : Int) := oda
             have q456 : x10_3 < (l0_1.length : Int) := oda
             obtain ⟨ad456, e456, hx456_0, hx456_1, hx456_2, hx456_3⟩ := at_T41 HR0_1.out x10_3 p456 q456
             cases e456
             (try replace hx456_0 := (HB.out.cell (World.block_lt_of_cell? w _ hx456_0)).trans hx456_0)
             (try replace hx456_1 := (HB.out.cell (World.block_lt_of_cell? w _ hx456_1)).trans hx456_1)
             (try replace hx456_2 := (HB.out.cell (World.block_lt_of_cell? w _ hx456_2)).trans hx456_2)
             (try replace hx456_3 := (HB.out.cell (World.block_lt_of_cell? w _ hx456_3)).trans hx456_3)
             replace p456 := eq_true p456
             replace q456 := eq_true q456
             go_wp2_with (first | ((with_reducible refine gate_dst (N := 11) rfl ?_); refine box_event ?hg (N := 11) ?hd (cs := #[.int .i64 0, .int .i64 0, .int .i64 0, .int .i64 0]) (t := 41) ?hr ?_; (case hd => rfl); (case hg => rfl); (case hr => first | (go_simp; done) | (go_simp; rfl)); intro gb457 hg w46 hbox hb; have n0_ := ak (Kd.R_below (rx HO_7.out) hb); have n1_ := ak (blk_below (bx BK449.out) hb); have n2_ := ak (below_step lb hb); have n3_ := ak (hbox); have n4_ := ak ((by rw [hg]; exact (below_size lb) : w.heap.size ≤ gb457)); have n5_ := ak ((by rw [hg]; exact (below_size lb) : w.heap.size ≤ gb457)); have n6_ := ak ((by rw [hg]; exact Nat.ne_of_lt (blk_lt (g := gb449) (o := .cells #[.int .i64 a0_0, .slice (some ad456) l0_1.length c0_1] 24 (0, 0)) (bx BK449.out)) : gb449 ≠ gb457)); have n7_ := ak ((by rw [hg]; exact Nat.ne_of_gt (blk_lt (g := gb449) (o := .cells #[.int .i64 a0_0, .slice (some ad456) l0_1.length c0_1] 24 (0, 0)) (bx BK449.out)) : gb457 ≠ gb449)); clear HO_7; clear BK449; clear HB; have HO_7 := n0_; have BK449 := n1_; have HB := n2_; have BK457 := n3_; have GW457 := n4_; have GE457 := n5_; have NB449_457 := n6_; have NB457_449 := n7_; clear n0_ n1_ n2_ n3_ n4_ n5_ n6_ n7_; clear hb hbox hg; have hnb47 := NB457_449.out; have hnc47 := NB449_457.out; have hcz48_0 : w46.cell? ⟨gb457, 0, none⟩ = some (.int .i64 0) := (blk_cell BK457.out 0).trans rfl; have hcz48_1 : w46.cell? ⟨gb457, 1, none⟩ = some (.int .i64 0) := (blk_cell BK457.out 1).trans rfl; have hcz48_2 : w46.cell? ⟨gb457, 2, none⟩ = some (.int .i64 0) := (blk_cell BK457.out 2).trans rfl; have hcz48_3 : w46.cell? ⟨gb457, 3, none⟩ = some (.int .i64 0) := (blk_cell BK457.out 3).trans rfl; have hfz48_0 := blk_frozen BK457.out 0; have hfz48_1 := blk_frozen BK457.out 1; have hfz48_2 := blk_frozen BK457.out 2; have hfz48_3 := blk_frozen BK457.out 3; have p458 : 0 ≤ (((rd_T41 l0_1 x10_3).f0) : Int) := oda; have q458 : ((rd_T41 l0_1 x10_3).f0) < (x7_3.length : Int) := oda; obtain ⟨ad458, e458, hx458_0⟩ := Kd.at_int (Kd.R_reads' HO_7.out).2.2 ((rd_T41 l0_1 x10_3).f0) p458 q458; obtain rfl : (⟨go22, 0, none⟩ : Addr) = ad458 := (by injection e458); (first | simp only [add_plain] at hx458_0 | simp only [add_at] at hx458_0 | simp only [Addr.add, Nat.zero_add] at hx458_0 | skip); have hn458_0 : (⟨go22, 0, none⟩ : Addr).block ≠ gb457 := Kd.own_blk (Kd.R_ne HO_7.out BK457.out (by decide)); have hn458_1 : (⟨go22, 0, none⟩ : Addr).block ≠ gb457 := Kd.own_blk (Kd.R_ne HO_7.out BK457.out (by decide)); have hn458_2 : (⟨go22, 0, none⟩ : Addr).block ≠ gb457 := Kd.own_blk (Kd.R_ne HO_7.out BK457.out (by decide)); have hn458_3 : (⟨go22, 0, none⟩ : Addr).block ≠ gb457 := Kd.own_blk (Kd.R_ne HO_7.out BK457.out (by decide)); replace hx458_0 := (cell_far (p := ⟨gb457, 0, none⟩) (by first | (rw [add_block]; exact hn458_0) | (show (Addr.add _ _).block ≠ _; rw [add_block]; exact hn458_0) | exact hn458_0) (.int .i64 ((rd_T41 l0_1 x10_3).f0))).trans hx458_0; replace hx458_0 := (cell_far (p := ⟨gb457, 1, none⟩) (by first | (rw [add_block]; exact hn458_1) | (show (Addr.add _ _).block ≠ _; rw [add_block]; exact hn458_1) | exact hn458_1) (.int .i64 ((rd_T41 l0_1 x10_3).f1))).trans hx458_0; replace hx458_0 := (cell_far (p := ⟨gb457, 2, none⟩) (by first | (rw [add_block]; exact hn458_2) | (show (Addr.add _ _).block ≠ _; rw [add_block]; exact hn458_2) | exact hn458_2) (.int .i64 ((rd_T41 l0_1 x10_3).f2))).trans hx458_0; replace hx458_0 := (cell_far (p := ⟨gb457, 3, none⟩) (by first | (rw [add_block]; exact hn458_3) | (show (Addr.add _ _).block ≠ _; rw [add_block]; exact hn458_3) | exact hn458_3) (.int .i64 ((rd_T41 l0_1 x10_3).f3))).trans hx458_0; clear hn458_0; clear hn458_1; clear hn458_2; clear hn458_3; replace p458 := eq_true p458; replace q458 := eq_true q458; have p459 : 0 ≤ (((rd_T41 l0_1 x10_3).f1) : Int) := oda; have q459 : ((rd_T41 l0_1 x10_3).f1) < (x7_3.length : Int) := oda; obtain ⟨ad459, e459, hx459_0⟩ := Kd.at_int (Kd.R_reads' HO_7.out).2.2 ((rd_T41 l0_1 x10_3).f1) p459 q459; obtain rfl : (⟨go22, 0, none⟩ : Addr) = ad459 := (by injection e459); (first | simp only [add_plain] at hx459_0 | simp only [add_at] at hx459_0 | simp only [Addr.add, Nat.zero_add] at hx459_0 | skip); have hn459_0 : (⟨go22, 0, none⟩ : Addr).block ≠ gb457 := Kd.own_blk (Kd.R_ne HO_7.out BK457.out (by decide)); have hn459_1 : (⟨go22, 0, none⟩ : Addr).block ≠ gb457 := Kd.own_blk (Kd.R_ne HO_7.out BK457.out (by decide)); have hn459_2 : (⟨go22, 0, none⟩ : Addr).block ≠ gb457 := Kd.own_blk (Kd.R_ne HO_7.out BK457.out (by decide)); have hn459_3 : (⟨go22, 0, none⟩ : Addr).block ≠ gb457 := Kd.own_blk (Kd.R_ne HO_7.out BK457.out (by decide)); replace hx459_0 := (cell_far (p := ⟨gb457, 0, none⟩) (by first | (rw [add_block]; exact hn459_0) | (show (Addr.add _ _).block ≠ _; rw [add_block]; exact hn459_0) | exact hn459_0) (.int .i64 ((rd_T41 l0_1 x10_3).f0))).trans hx459_0; replace hx459_0 := (cell_far (p := ⟨gb457, 1, none⟩) (by first | (rw [add_block]; exact hn459_1) | (show (Addr.add _ _).block ≠ _; rw [add_block]; exact hn459_1) | exact hn459_1) (.int .i64 ((rd_T41 l0_1 x10_3).f1))).trans hx459_0; replace hx459_0 := (cell_far (p := ⟨gb457, 2, none⟩) (by first | (rw [add_block]; exact hn459_2) | (show (Addr.add _ _).block ≠ _; rw [add_block]; exact hn459_2) | exact hn459_2) (.int .i64 ((rd_T41 l0_1 x10_3).f2))).trans hx459_0; replace hx459_0 := (cell_far (p := ⟨gb457, 3, none⟩) (by first | (rw [add_block]; exact hn459_3) | (show (Addr.add _ _).block ≠ _; rw [add_block]; exact hn459_3) | exact hn459_3) (.int .i64 ((rd_T41 l0_1 x10_3).f3))).trans hx459_0; clear hn459_0; clear hn459_1; clear hn459_2; clear hn459_3; replace p459 := eq_true p459; replace q459 := eq_true q459))
             (try simp only [← hl7_3])
             go_roundg k3
             case measure => have := HK1.out; have := HK2.out; have := HK3.out; omega
             case rel => exact ⟨(x7_3), (wrap64 (x10_3 + 1)), (by first | rfl | (simp [*]; done)), H', ⟨by have := HK1.out; have := HK2.out; have := HK3.out; omega⟩, ⟨by (try simp only [hl7_2]); (try simp only [hl7_3]); exact rx (Kd.R_mono (Kd.R_far (p := ⟨gb457, 3, none⟩) (Kd.R_far (p := ⟨gb457, 2, none⟩) (Kd.R_far (p := ⟨gb457, 1, none⟩) (Kd.R_far (p := ⟨gb457, 0, none⟩) (Kd.R_types HO_7.out BK457.out (by decide)) (fun _ hk => hk.2) (.int .i64 ((rd_T41 l0_1 x10_3).f0))) (fun _ hk => hk.2) (.int .i64 ((rd_T41 l0_1 x10_3).f1))) (fun _ hk => hk.2) (.int .i64 ((rd_T41 l0_1 x10_3).f2))) (fun _ hk => hk.2) (.int .i64 ((rd_T41 l0_1 x10_3).f3))) (fun _ hk => trivial))⟩, ⟨by (try simp only [hl7_2]); (try simp only [hl7_3]); (with_reducible repeat (first | refine blk_drewN ?_ _ | refine blk_drew ?_ | refine blk_alloc ?_ _)); refine blk_far ?_ NB449_457.out _; (with_reducible repeat (first | refine blk_drewN ?_ _ | refine blk_drew ?_ | refine blk_alloc ?_ _)); refine blk_far ?_ NB449_457.out _; (with_reducible repeat (first | refine blk_drewN ?_ _ | refine blk_drew ?_ | refine blk_alloc ?_ _)); refine blk_far ?_ NB449_457.out _; (with_reducible repeat (first | refine blk_drewN ?_ _ | refine blk_drew ?_ | refine blk_alloc ?_ _)); refine blk_far ?_ NB449_457.out _; exact bx BK449.out⟩, ⟨lb⟩⟩
           ·
            rw [if_neg c32] at H
            have c32b0 : ((rd x7_3 ((rd_T41 l0_1 x10_3).f0)) == x9_2) = false := beq_eq_false_iff_ne.mpr c32
            have c32b1 : ((rd x7_3 ((rd_T41 l0_1 x10_3).f0)) != x9_2) = true := bne_iff_ne.mpr c32
            have H' := ak H
            clear H
            have hcz49_0 : wr.cell? ⟨gb449, 0, none⟩ = some (.int .i64 a0_0) := (blk_cell BK449.out 0).trans rfl
            have hcz49_1 : wr.cell? ⟨gb449, 1, none⟩ = some (.slice A0_1 l0_1.length c0_1) := (blk_cell BK449.out 1).trans rfl
            have hfz49_0 := blk_frozen BK449.out 0
            have hfz49_1 := blk_frozen BK449.out 1
            have p456 : 0 ≤ (x10_3 : Int) := oda
            have q456 : x10_3 < (l0_1.length : Int) := oda
            obtain ⟨ad456, e456, hx456_0, hx456_1, hx456_2, hx456_3⟩ := at_T41 HR0_1.out x10_3 p456 q456
            cases e456
            (try replace hx456_0 := (HB.out.cell (World.block_lt_of_cell? w _ hx456_0)).trans hx456_0)
            (try replace hx456_1 := (HB.out.cell (World.block_lt_of_cell? w _ hx456_1)).trans hx456_1)
            (try replace hx456_2 := (HB.out.cell (World.block_lt_of_cell? w _ hx456_2)).trans hx456_2)
            (try replace hx456_3 := (HB.out.cell (World.block_lt_of_cell? w _ hx456_3)).trans hx456_3)
            replace p456 := eq_true p456
            replace q456 := eq_true q456
            go_wp2_with (first | ((with_reducible refine gate_dst (N := 11) rfl ?_); refine box_event ?hg (N := 11) ?hd (cs := #[.int .i64 0, .int .i64 0, .int .i64 0, .int .i64 0]) (t := 41) ?hr ?_; (case hd => rfl); (case hg => rfl); (case hr => first | (go_simp; done) | (go_simp; rfl)); intro gb457 hg w50 hbox hb; have n0_ := ak (Kd.R_below (rx HO_7.out) hb); have n1_ := ak (blk_below (bx BK449.out) hb); have n2_ := ak (below_step lb hb); have n3_ := ak (hbox); have n4_ := ak ((by rw [hg]; exact (below_size lb) : w.heap.size ≤ gb457)); have n5_ := ak ((by rw [hg]; exact (below_size lb) : w.heap.size ≤ gb457)); have n6_ := ak ((by rw [hg]; exact Nat.ne_of_lt (blk_lt (g := gb449) (o := .cells #[.int .i64 a0_0, .slice (some ad456) l0_1.length c0_1] 24 (0, 0)) (bx BK449.out)) : gb449 ≠ gb457)); have n7_ := ak ((by rw [hg]; exact Nat.ne_of_gt (blk_lt (g := gb449) (o := .cells #[.int .i64 a0_0, .slice (some ad456) l0_1.length c0_1] 24 (0, 0)) (bx BK449.out)) : gb457 ≠ gb449)); clear HO_7; clear BK449; clear HB; have HO_7 := n0_; have BK449 := n1_; have HB := n2_; have BK457 := n3_; have GW457 := n4_; have GE457 := n5_; have NB449_457 := n6_; have NB457_449 := n7_; clear n0_ n1_ n2_ n3_ n4_ n5_ n6_ n7_; clear hb hbox hg; have hnb51 := NB457_449.out; have hnc51 := NB449_457.out; have hcz52_0 : w50.cell? ⟨gb457, 0, none⟩ = some (.int .i64 0) := (blk_cell BK457.out 0).trans rfl; have hcz52_1 : w50.cell? ⟨gb457, 1, none⟩ = some (.int .i64 0) := (blk_cell BK457.out 1).trans rfl; have hcz52_2 : w50.cell? ⟨gb457, 2, none⟩ = some (.int .i64 0) := (blk_cell BK457.out 2).trans rfl; have hcz52_3 : w50.cell? ⟨gb457, 3, none⟩ = some (.int .i64 0) := (blk_cell BK457.out 3).trans rfl; have hfz52_0 := blk_frozen BK457.out 0; have hfz52_1 := blk_frozen BK457.out 1; have hfz52_2 := blk_frozen BK457.out 2; have hfz52_3 := blk_frozen BK457.out 3; have p458 : 0 ≤ (((rd_T41 l0_1 x10_3).f0) : Int) := oda; have q458 : ((rd_T41 l0_1 x10_3).f0) < (x7_3.length : Int) := oda; obtain ⟨ad458, e458, hx458_0⟩ := Kd.at_int (Kd.R_reads' HO_7.out).2.2 ((rd_T41 l0_1 x10_3).f0) p458 q458; obtain rfl : (⟨go22, 0, none⟩ : Addr) = ad458 := (by injection e458); (first | simp only [add_plain] at hx458_0 | simp only [add_at] at hx458_0 | simp only [Addr.add, Nat.zero_add] at hx458_0 | skip); have hn458_0 : (⟨go22, 0, none⟩ : Addr).block ≠ gb457 := Kd.own_blk (Kd.R_ne HO_7.out BK457.out (by decide)); have hn458_1 : (⟨go22, 0, none⟩ : Addr).block ≠ gb457 := Kd.own_blk (Kd.R_ne HO_7.out BK457.out (by decide)); have hn458_2 : (⟨go22, 0, none⟩ : Addr).block ≠ gb457 := Kd.own_blk (Kd.R_ne HO_7.out BK457.out (by decide)); have hn458_3 : (⟨go22, 0, none⟩ : Addr).block ≠ gb457 := Kd.own_blk (Kd.R_ne HO_7.out BK457.out (by decide)); replace hx458_0 := (cell_far (p := ⟨gb457, 0, none⟩) (by first | (rw [add_block]; exact hn458_0) | (show (Addr.add _ _).block ≠ _; rw [add_block]; exact hn458_0) | exact hn458_0) (.int .i64 ((rd_T41 l0_1 x10_3).f0))).trans hx458_0; replace hx458_0 := (cell_far (p := ⟨gb457, 1, none⟩) (by first | (rw [add_block]; exact hn458_1) | (show (Addr.add _ _).block ≠ _; rw [add_block]; exact hn458_1) | exact hn458_1) (.int .i64 ((rd_T41 l0_1 x10_3).f1))).trans hx458_0; replace hx458_0 := (cell_far (p := ⟨gb457, 2, none⟩) (by first | (rw [add_block]; exact hn458_2) | (show (Addr.add _ _).block ≠ _; rw [add_block]; exact hn458_2) | exact hn458_2) (.int .i64 ((rd_T41 l0_1 x10_3).f2))).trans hx458_0; replace hx458_0 := (cell_far (p := ⟨gb457, 3, none⟩) (by first | (rw [add_block]; exact hn458_3) | (show (Addr.add _ _).block ≠ _; rw [add_block]; exact hn458_3) | exact hn458_3) (.int .i64 ((rd_T41 l0_1 x10_3).f3))).trans hx458_0; clear hn458_0; clear hn458_1; clear hn458_2; clear hn458_3; replace p458 := eq_true p458; replace q458 := eq_true q458))
            (try simp only [← hl7_3])
            go_roundg k3
            case measure => have := HK1.out; have := HK2.out; have := HK3.out; omega
            case rel => exact ⟨(x7_3), (wrap64 (x10_3 + 1)), (by first | rfl | (simp [*]; done)), H', ⟨by have := HK1.out; have := HK2.out; have := HK3.out; omega⟩, ⟨by (try simp only [hl7_2]); (try simp only [hl7_3]); exact rx (Kd.R_mono (Kd.R_far (p := ⟨gb457, 3, none⟩) (Kd.R_far (p := ⟨gb457, 2, none⟩) (Kd.R_far (p := ⟨gb457, 1, none⟩) (Kd.R_far (p := ⟨gb457, 0, none⟩) (Kd.R_types HO_7.out BK457.out (by decide)) (fun _ hk => hk.2) (.int .i64 ((rd_T41 l0_1 x10_3).f0))) (fun _ hk => hk.2) (.int .i64 ((rd_T41 l0_1 x10_3).f1))) (fun _ hk => hk.2) (.int .i64 ((rd_T41 l0_1 x10_3).f2))) (fun _ hk => hk.2) (.int .i64 ((rd_T41 l0_1 x10_3).f3))) (fun _ hk => trivial))⟩, ⟨by (try simp only [hl7_2]); (try simp only [hl7_3]); (with_reducible repeat (first | refine blk_drewN ?_ _ | refine blk_drew ?_ | refine blk_alloc ?_ _)); refine blk_far ?_ NB449_457.out _; (with_reducible repeat (first | refine blk_drewN ?_ _ | refine blk_drew ?_ | refine blk_alloc ?_ _)); refine blk_far ?_ NB449_457.out _; (with_reducible repeat (first | refine blk_drewN ?_ _ | refine blk_drew ?_ | refine blk_alloc ?_ _)); refine blk_far ?_ NB449_457.out _; (with_reducible repeat (first | refine blk_drewN ?_ _ | refine blk_drew ?_ | refine blk_alloc ?_ _)); refine blk_far ?_ NB449_457.out _; exact bx BK449.out⟩, ⟨lb⟩⟩
          ·
           rw [if_neg c28] at H
           have c28b0 : decide (x10_3 < (l0_1.length : Int)) = false := decide_eq_false c28
           clear c28
           have H' := ak H
           clear H
           have hcz53_0 : wr.cell? ⟨gb449, 0, none⟩ = some (.int .i64 a0_0) := (blk_cell BK449.out 0).trans rfl
           have hcz53_1 : wr.cell? ⟨gb449, 1, none⟩ = some (.slice A0_1 l0_1.length c0_1) := (blk_cell BK449.out 1).trans rfl
           have hfz53_0 := blk_frozen BK449.out 0
           have hfz53_1 := blk_frozen BK449.out 1
           go_wp2
           (try simp only [← hl7_2, ← hl7_3])
           go_roundg k3
           case measure => have := HK1.out; have := HK2.out; have := HK3.out; omega
           case rel => exact ⟨(x7_3), (wrap64 (x9_2 + 1)), (by first | rfl | (simp [*]; done)), H', ⟨by have := HK1.out; have := HK2.out; have := HK3.out; omega⟩, ⟨by (try simp only [hl7_2]); (try simp only [hl7_3]); exact rx HO_7.out⟩, ⟨by (try simp only [hl7_2]); (try simp only [hl7_3]); exact bx BK449.out⟩, ⟨lb⟩⟩
       ·
        rw [if_neg c26] at H
        have c26b0 : decide (x9_2 < a0_0) = false := decide_eq_false c26
        clear c26
        simp only [Option.some.injEq, Prod.mk.injEq] at H
        obtain ⟨rfl, rfl⟩ := H
        have hcz54_0 : wr.cell? ⟨gb449, 0, none⟩ = some (.int .i64 a0_0) := (blk_cell BK449.out 0).trans rfl
        have hcz54_1 : wr.cell? ⟨gb449, 1, none⟩ = some (.slice A0_1 l0_1.length c0_1) := (blk_cell BK449.out 1).trans rfl
        have hfz54_0 := blk_frozen BK449.out 0
        have hfz54_1 := blk_frozen BK449.out 1
        go_wp2
        go_ret2
        exact ⟨_, by first | rfl | (simp [errW_none, errW_some] <;> rfl) | (simp [*, errW_none, errW_some] <;> rfl), by exact rx HO_7.out, lb⟩
 ·
  rw [if_neg c4] at H
  have c4b0 : (t450 == 0) = false := beq_eq_false_iff_ne.mpr c4
  have c4b1 : (t450 != 0) = true := bne_iff_ne.mpr c4
  simp only [Option.some.injEq, Prod.mk.injEq] at H
  obtain ⟨rfl, rfl⟩ := H
  go_enter Try.func14, Try.ntmps14
  go_wp2_with (first | ((with_reducible refine gate_dst (N := 2) rfl ?_); refine box_event ?hg (N := 2) ?hd (cs := #[.int .i64 a0_0, .slice A0_1 l0_1.length c0_1]) (t := 24) ?hr ?_; (case hd => rfl); (case hg => rfl); (case hr => first | (go_simp; done) | (go_simp; rfl)); intro gb449 hg w55 hbox hb; have n0_ := ak (below_step lb hb); have n1_ := ak (hbox); have n2_ := ak ((by rw [hg]; exact (below_size lb) : w.heap.size ≤ gb449)); have n3_ := ak ((by rw [hg]; exact (below_size lb) : w.heap.size ≤ gb449)); clear HB; have HB := n0_; have BK449 := n1_; have GW449 := n2_; have GE449 := n3_; clear n0_ n1_ n2_ n3_; clear hb hbox hg; have hcz56_0 : w55.cell? ⟨gb449, 0, none⟩ = some (.int .i64 a0_0) := (blk_cell BK449.out 0).trans rfl; have hcz56_1 : w55.cell? ⟨gb449, 1, none⟩ = some (.slice A0_1 l0_1.length c0_1) := (blk_cell BK449.out 1).trans rfl; have hfz56_0 := blk_frozen BK449.out 0; have hfz56_1 := blk_frozen BK449.out 1) | ((with_reducible refine gate_callee (f := 32) rfl ?_); refine goesL_ (some 14) rfl rfl Try.func32 (by kernel_rfl) rfl #[.agg #[.int .i64 a0_0, .slice A0_1 l0_1.length c0_1], .int .i64 a1] rfl (by (try simp only [List.map_toArray, List.map_cons, List.map_nil]); first | done | rfl | (simp only [List.length_drop, List.length_take]; rfl)) ?_; (with_reducible refine (compassref04_Wrong.calls k a0_0 _ _ l0_1 a1 t450 _ ?side1 ?side2 A3.out).mono ?_); (case side1 => repeat (first | exact (Kd.C_below HR0_1.out HB.out) | (with_reducible refine Kd.C_alloc ?_ _) | (with_reducible refine Kd.C_drewN ?_ _) | (with_reducible refine Kd.C_drew ?_))); (case side2 => exact HC0_1.out); rintro e w57 ⟨rfl, hb⟩; refine ⟨_, rfl, ?_⟩; have n0_ := ak (blk_below (bx BK449.out) hb); have n1_ := ak (below_step lb hb); clear BK449; clear HB; have BK449 := n0_; have HB := n1_; clear n0_ n1_; (try clear hb); (try clear hb2); (try clear hk); (try clear hi)))
  go_ret2
  exact ⟨_, by first | rfl | (simp [errW_none, errW_some] <;> rfl) | (simp [*, errW_none, errW_some] <;> rfl), by first | exact Kd.R_nil _ _ _ _ _ | exact Kd.N_nil _ _ _ _ _ | exact Kd.V_nil _ _ _ _ _ | exact Kd.Q_nil _ _ _ _ _ | exact Kd.S_nil _ _ _ _ _, lb⟩

end Go.Proofs.Ytacklfnnpiobgaa.Q
