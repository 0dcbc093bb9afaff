-- PRINTED by print.py (a twelfth state) out of the translation. Not trusted: Lean checks it.
import Derived.Test.YtacklfnnpiobgaaQ0
namespace Go.Proofs.Ytacklfnnpiobgaa.Q
open Go.RowKit Go.Proofs.YtacklfnnpiobgaaW.PrintWords Go.Proofs.YtacklfnnpiobgaaW.PrintLast Go.Proofs.YtacklfnnpiobgaaW.PrintMore
attribute [local go_sem] max2_int min2_int max_two min_two max_three min_three max_four min_four   -- for this text's walks alone
set_option linter.unusedVariables false
set_option linter.unusedSimpArgs false

/-! ### compassref04_Numbered: function 40 -/
def compassref04_Numbered.l0 : Nat → List Int → List Int → Int → Int → Option (List Int)
  | 0, _, _, _, _ => none
  | k + 1, x0, x3, x4, x5 => if x5 < (x0.length : Int) then (if 0 ≤ x5 then (if (rd x0 x5) = x5 then (if x5 < (x3.length : Int) then (compassref04_Numbered.l0 k x0 (x3.set (x5 : Int).toNat x4) (wrap64 (x4 + 1)) (wrap64 (x5 + 1))) else (none)) else (if 0 ≤ (rd x0 x5) then (if (rd x0 x5) < (x3.length : Int) then (if x5 < (x3.length : Int) then (compassref04_Numbered.l0 k x0 (x3.set (x5 : Int).toNat (rd x3 (rd x0 x5))) x4 (wrap64 (x5 + 1))) else (none)) else (none)) else (none))) else (none)) else (some x3)
def compassref04_Numbered.f (k : Nat) (l0 : List Int) : Option (List Int) := if 0 ≤ (l0.length : Int) then (if ((l0.length : Int) : Int).toNat ≤ 35184372088832 then (compassref04_Numbered.l0 k l0 (List.replicate ((l0.length : Int) : Int).toNat 0) 0 0) else (none)) else (none)
theorem compassref04_Numbered.mono_l : ∀ k, (∀ y0 y1 y2 y3, LeO (compassref04_Numbered.l0 k y0 y1 y2 y3) (compassref04_Numbered.l0 (k + 1) y0 y1 y2 y3))
  | 0 => fun _ _ _ _ r h => by simp [compassref04_Numbered.l0] at h
  | k + 1 => by
    have ih0 := compassref04_Numbered.mono_l k
    · intro y0 y1 y2 y3
      unfold compassref04_Numbered.l0
      repeat' first
      | (with_reducible exact ih0 _ _ _ _)
      | (with_reducible exact LeO.refl _)
      | (with_reducible exact LeO.none _)
      | (with_reducible refine LeO.ite ?_ ?_)
      | (with_reducible refine LeO.bind ?_ (fun _ => ?_))
      | exact ih0 _ _ _ _
      | exact LeO.none _
      | refine LeO.ite ?_ ?_
      | refine LeO.bind ?_ (fun _ => ?_)
theorem compassref04_Numbered.mono : ∀ a0 k, LeO (compassref04_Numbered.f k a0) (compassref04_Numbered.f (k + 1) a0) := by
  intro a0 k
  have ih0 := compassref04_Numbered.mono_l k
  unfold compassref04_Numbered.f
  repeat' first
      | (with_reducible exact ih0 _ _ _ _)
      | (with_reducible exact LeO.refl _)
      | (with_reducible exact LeO.none _)
      | (with_reducible refine LeO.ite ?_ ?_)
      | (with_reducible refine LeO.bind ?_ (fun _ => ?_))
      | exact ih0 _ _ _ _
      | exact LeO.none _
      | refine LeO.ite ?_ ?_
      | refine LeO.bind ?_ (fun _ => ?_)
set_option maxHeartbeats 8000000 in
set_option maxRecDepth 100000 in
theorem compassref04_Numbered.calls (k : Nat) (A0 : Option Addr) (c0 : Nat) (l0 : List Int) (r : List Int) (w : World) (hr0 : Kd.C (Kd.int .i64) w A0 l0.length l0) (hc0 : l0.length ≤ c0) (h : compassref04_Numbered.f k l0 = some r) :
    Calls Try.prog 40 #[.slice A0 l0.length c0] w fun e w' => ∃ v0_ : Value, e = .returned (v0_) ∧ Kd.R (Kd.int .i64) 3 w' w.heap.size (fun _ => True) v0_ r ∧ Below w.heap.size w w' := by
 have HR0 := ak hr0
 have HC0 := ak hc0
 clear hr0 hc0
 have HB := ak (Below.refl w.heap.size w)
 have H : (if 0 ≤ (l0.length : Int) then (if ((l0.length : Int) : Int).toNat ≤ 35184372088832 then (compassref04_Numbered.l0 k l0 (List.replicate ((l0.length : Int) : Int).toNat 0) 0 0) else (none)) else (none)) = some r := h
 clear h
 by_cases c2 : 0 ≤ (l0.length : Int)
 rotate_left
 ·
  rw [if_neg c2] at H
  exact absurd H (by simp)

 rw [if_pos c2] at H
 have c2b0 := eq_true c2
 have c2b1 : decide (0 ≤ (l0.length : Int)) = true := decide_eq_true c2
 clear c2
 by_cases c3 : ((l0.length : Int) : Int).toNat ≤ 35184372088832
 rotate_left
 ·
  rw [if_neg c3] at H
  exact absurd H (by simp)
 rw [if_pos c3] at H
 have c3b0 := eq_true c3
 have c3b1 : decide (((l0.length : Int) : Int).toNat ≤ 35184372088832) = true := decide_eq_true c3
 clear c3
 obtain ⟨y420, hy420⟩ : ∃ y_ : List Int, y_ = (List.replicate ((l0.length : Int) : Int).toNat 0) := ⟨_, rfl⟩
 replace H : (compassref04_Numbered.l0 k l0 y420 0 0) = some r := by first | (rw [hy420]; exact H) | exact H
 have Ny420 := ak hy420
 clear hy420
 have H' := ak H
 clear H
 go_enter Try.func40, Try.ntmps40
 go_wp2_with (first | ((with_reducible refine gate_dst (N := 8) rfl ?_); refine Kd.R_make (Kd.int .i64) _ 3 rfl (N := 8) rfl 26 _ _ rfl (l0.length : Int) rfl rfl Try.underlying26 (.int .i64 0) 8 info3 rfl (by decide) (by omega) 0 (ok := fun _ => True) (okp := fun _ => True) rfl (fun _ hk => hk) trivial (oda) (Nat.le_trans (Nat.mul_le_mul_right _ (oda : (l0.length : Int).toNat ≤ 35184372088832)) (by omega)) (Below.refl _ _) (Nat.le_refl _) ?_; intro v421 w4 ho5 hb hg_ hnew_; clear hg_ hnew_; (first | rw [← Ny420.out] at ho5 | (simp only [Int.reduceToNat] at ho5; rw [← Ny420.out] at ho5)); have n0_ := ak (Kd.R_lower ho5 (below_size lb)); have n1_ := ak (below_step lb hb); clear HB; have HO422 := n0_; have HB := n1_; clear n0_ n1_; clear hb ho5))
 go_loopg [4, 5] k (fun kq v4 v5 w' => ∃ (x3_1 : List Int) (x4_1 : Int) (x5_1 : Int), v4 = .int .i64 x4_1 ∧ v5 = .int .i64 x5_1 ∧ Aside0 (compassref04_Numbered.l0 kq l0 x3_1 x4_1 x5_1 = some r) ∧ Aside0 (kq ≤ k) ∧ Aside0 (Kd.R (Kd.int .i64) 3 w' w.heap.size (fun _ => True) v421 x3_1) ∧ Aside0 (Below w.heap.size w w'))
 case atStart => exact ⟨(y420), (0), (0), (by first | rfl | (simp [*]; done)), (by first | rfl | (simp [*]; done)), H', ⟨Nat.le_refl _⟩, ⟨rx HO422.out⟩, ⟨lb⟩⟩
 case round =>
  clear H'
  try clear c2; try clear c2b0; try clear c2b1; try clear p2; try clear c3; try clear c3b0; try clear c3b1; try clear c4
  obtain ⟨x3_1, x4_1, x5_1, rfl, rfl, HA, HK1, HO_3, HB⟩ := hrel
  cases gk with
  | zero => exact absurd HA.out (by simp [compassref04_Numbered.l0])
  | succ k1 =>
   have H := HA.out
   clear HA
   simp only [compassref04_Numbered.l0] at H
   by_cases c6 : x5_1 < (l0.length : Int)
   ·
    rw [if_pos c6] at H
    have c6b0 : decide (x5_1 < (l0.length : Int)) = true := decide_eq_true c6
    clear c6
    by_cases c7 : 0 ≤ x5_1
    rotate_left
    ·
     rw [if_neg c7] at H
     exact absurd H (by simp)
    rw [if_pos c7] at H
    have c7b0 : decide (0 ≤ x5_1) = true := decide_eq_true c7
    clear c7
    by_cases c8 : (rd l0 x5_1) = x5_1
    ·
     rw [if_pos c8] at H
     have c8b0 : ((rd l0 x5_1) == x5_1) = true := beq_iff_eq.mpr c8
     have c8b1 : ((rd l0 x5_1) != x5_1) = false := bne_eq_false_iff_eq.mpr c8
     clear c8
     by_cases c9 : x5_1 < (x3_1.length : Int)
     rotate_left
     ·
      rw [if_neg c9] at H
      exact absurd H (by simp)
     rw [if_pos c9] at H
     have c9b0 : decide (x5_1 < (x3_1.length : Int)) = true := decide_eq_true c9
     clear c9
     obtain ⟨y424, hy424⟩ : ∃ y_ : List Int, y_ = (x3_1.set (x5_1 : Int).toNat x4_1) := ⟨_, rfl⟩
     replace H : (compassref04_Numbered.l0 k1 l0 y424 (wrap64 (x4_1 + 1)) (wrap64 (x5_1 + 1))) = some r := by first | (rw [hy424]; exact H) | exact H
     have Ny424 := ak hy424
     clear hy424
     have H' := ak H
     clear H
     have p423 : 0 ≤ (x5_1 : Int) := oda
     have q423 : x5_1 < (l0.length : Int) := oda
     obtain ⟨ad423, e423, hx423_0⟩ := Kd.at_int HR0.out x5_1 p423 q423
     cases e423
     (try replace hx423_0 := (HB.out.cell (World.block_lt_of_cell? w _ hx423_0)).trans hx423_0)
     replace p423 := eq_true p423
     replace q423 := eq_true q423
     have p10 : 0 ≤ (x5_1 : Int) := oda
     have q10 : (x5_1 : Int) < ((x3_1.length : Int) : Int) := oda
     obtain ⟨go10, co10, eo10, gb10, gl10, cl10, HG10⟩ := Kd.R_form HO_3.out (by omega)
     (first | cases eo10 | (injection eo10 with ea_ en_ ec_; (first | subst ea_ | (injection ea_ with ea_; subst ea_)); subst ec_; clear en_))
     have GB10 := ak gb10
     have GG10 := ak HG10
     clear gb10 gl10 HG10
     obtain ⟨hx10_0, hf10_0⟩ := Kd.R_celln 0 HO_3.out (x5_1 : Int) p10 q10
     replace p10 := eq_true p10
     replace q10 := eq_true q10
     have HP11 := Kd.R_putg HO_3.out (x5_1 : Int) x4_1
     go_wp2_with (first | ((with_reducible refine gate_store (t := 3) (p := 24) rfl ?_); refine store_event (t := 3) (p := 24) (v := ?vo_w12) (w1 := (wr.setCell ⟨go10, (x5_1 : Int).toNat, none⟩ (.int .i64 x4_1))) ?hg ?ho ?hn ?hr ?_; (case ho => rfl); (case hg => rfl); (case hn => rfl); (case hr => first | (go_simp; done) | (go_simp; rfl)); intro w12 hw; have hg : wr.grownBy w12 (some go10) := (by rw [hw]; exact HP11.2); have hp_ : Kd.R (Kd.int .i64) 3 w12 w.heap.size (fun _ => True) (.slice (some ⟨go10, 0, none⟩) x3_1.length co10) y424 := (by rw [hw, Ny424.out]; exact HP11.1); clear HP11; have n0_ := ak (hp_); have n1_ := ak ((by rw [hw]; exact below_set (HB.out) GB10.out : Below w.heap.size w w12)); clear HO_3; clear HB; have HO_3 := n0_; have HB := n1_; clear n0_ n1_; clear hg hw hp_))
     go_roundg k1
     case measure => have := HK1.out; omega
     case rel => exact ⟨(y424), (wrap64 (x4_1 + 1)), (wrap64 (x5_1 + 1)), (by first | rfl | (simp [*]; done)), (by first | rfl | (simp [*]; done)), H', ⟨by have := HK1.out; omega⟩, ⟨rx HO_3.out⟩, ⟨lb⟩⟩
    ·
     rw [if_neg c8] at H
     have c8b0 : ((rd l0 x5_1) == x5_1) = false := beq_eq_false_iff_ne.mpr c8
     have c8b1 : ((rd l0 x5_1) != x5_1) = true := bne_iff_ne.mpr c8
     by_cases c13 : 0 ≤ (rd l0 x5_1)
     rotate_left
     ·
      rw [if_neg c13] at H
      exact absurd H (by simp)
     rw [if_pos c13] at H
     have c13b0 : decide (0 ≤ (rd l0 x5_1)) = true := decide_eq_true c13
     clear c13
     by_cases c14 : (rd l0 x5_1) < (x3_1.length : Int)
     rotate_left
     ·
      rw [if_neg c14] at H
      exact absurd H (by simp)
     rw [if_pos c14] at H
     have c14b0 : decide ((rd l0 x5_1) < (x3_1.length : Int)) = true := decide_eq_true c14
     clear c14
     by_cases c15 : x5_1 < (x3_1.length : Int)
     rotate_left
     ·
      rw [if_neg c15] at H
      exact absurd H (by simp)
     rw [if_pos c15] at H
     have c15b0 : decide (x5_1 < (x3_1.length : Int)) = true := decide_eq_true c15
     clear c15
     obtain ⟨y427, hy427⟩ : ∃ y_ : List Int, y_ = (x3_1.set (x5_1 : Int).toNat (rd x3_1 (rd l0 x5_1))) := ⟨_, rfl⟩
     replace H : (compassref04_Numbered.l0 k1 l0 y427 x4_1 (wrap64 (x5_1 + 1))) = some r := by first | (rw [hy427]; exact H) | exact H
     have Ny427 := ak hy427
     clear hy427
     have H' := ak H
     clear H
     have p423 : 0 ≤ (x5_1 : Int) := oda
     have q423 : x5_1 < (l0.length : Int) := oda
     obtain ⟨ad423, e423, hx423_0⟩ := Kd.at_int HR0.out x5_1 p423 q423
     cases e423
     (try replace hx423_0 := (HB.out.cell (World.block_lt_of_cell? w _ hx423_0)).trans hx423_0)
     replace p423 := eq_true p423
     replace q423 := eq_true q423
     have p425 : 0 ≤ (x5_1 : Int) := oda
     have q425 : x5_1 < (l0.length : Int) := oda
     obtain ⟨ad425, e425, hx425_0⟩ := Kd.at_int HR0.out x5_1 p425 q425
     obtain rfl : ad423 = ad425 := (by injection e425)
     (try replace hx425_0 := (HB.out.cell (World.block_lt_of_cell? w _ hx425_0)).trans hx425_0)
     replace p425 := eq_true p425
     replace q425 := eq_true q425
     obtain ⟨Ao17, co17, eo17⟩ := Kd.R_slice HO_3.out
     subst eo17
     have p426 : 0 ≤ ((rd l0 x5_1) : Int) := oda
     have q426 : (rd l0 x5_1) < (x3_1.length : Int) := oda
     obtain ⟨ad426, e426, hx426_0⟩ := Kd.at_int (Kd.R_reads' HO_3.out).2.2 (rd l0 x5_1) p426 q426
     cases e426
     replace p426 := eq_true p426
     replace q426 := eq_true q426
     have p16 : 0 ≤ (x5_1 : Int) := oda
     have q16 : (x5_1 : Int) < ((x3_1.length : Int) : Int) := oda
     obtain ⟨go16, co16, eo16, gb16, gl16, cl16, HG16⟩ := Kd.R_form HO_3.out (by omega)
     (first | cases eo16 | (injection eo16 with ea_ en_ ec_; (first | subst ea_ | (injection ea_ with ea_; subst ea_)); subst ec_; clear en_))
     have GB16 := ak gb16
     have GG16 := ak HG16
     clear gb16 gl16 HG16
     (first | simp only [add_plain] at hx426_0 | skip)
     obtain ⟨hx16_0, hf16_0⟩ := Kd.R_celln 0 HO_3.out (x5_1 : Int) p16 q16
     replace p16 := eq_true p16
     replace q16 := eq_true q16
     have HP18 := Kd.R_putg HO_3.out (x5_1 : Int) (rd x3_1 (rd l0 x5_1))
     go_wp2_with (first | ((with_reducible refine gate_store (t := 3) (p := 36) rfl ?_); refine store_event (t := 3) (p := 36) (v := ?vo_w19) (w1 := (wr.setCell ⟨go16, (x5_1 : Int).toNat, none⟩ (.int .i64 (rd x3_1 (rd l0 x5_1))))) ?hg ?ho ?hn ?hr ?_; (case ho => rfl); (case hg => rfl); (case hn => rfl); (case hr => first | (go_simp; done) | (go_simp; rfl)); intro w19 hw; have hg : wr.grownBy w19 (some go16) := (by rw [hw]; exact HP18.2); have hp_ : Kd.R (Kd.int .i64) 3 w19 w.heap.size (fun _ => True) (.slice (some ⟨go16, 0, none⟩) x3_1.length co17) y427 := (by rw [hw, Ny427.out]; exact HP18.1); clear HP18; have n0_ := ak (hp_); have n1_ := ak ((by rw [hw]; exact below_set (HB.out) GB16.out : Below w.heap.size w w19)); clear HO_3; clear HB; have HO_3 := n0_; have HB := n1_; clear n0_ n1_; clear hg hw hp_))
     go_roundg k1
     case measure => have := HK1.out; omega
     case rel => exact ⟨(y427), (x4_1), (wrap64 (x5_1 + 1)), (by first | rfl | (simp [*]; done)), (by first | rfl | (simp [*]; done)), H', ⟨by have := HK1.out; omega⟩, ⟨rx HO_3.out⟩, ⟨lb⟩⟩
   ·
    rw [if_neg c6] at H
    have c6b0 : decide (x5_1 < (l0.length : Int)) = false := decide_eq_false c6
    clear c6
    obtain rfl := Option.some.inj H
    go_wp2
    go_ret
    exact ⟨_, by first | rfl | (simp [errW_none, errW_some] <;> rfl) | (simp [*, errW_none, errW_some] <;> rfl), by exact rx HO_3.out, lb⟩
end Go.Proofs.Ytacklfnnpiobgaa.Q
