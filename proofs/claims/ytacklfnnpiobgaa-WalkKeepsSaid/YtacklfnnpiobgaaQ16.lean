-- PRINTED by print.py (a twelfth state) out of the translation. Not trusted: Lean checks it.
import Derived.Test.YtacklfnnpiobgaaQ0
import Derived.Test.YtacklfnnpiobgaaQ5
import Derived.Test.YtacklfnnpiobgaaRev
namespace Go.Proofs.Ytacklfnnpiobgaa.Q
open Go.RowKit Go.Proofs.YtacklfnnpiobgaaW.PrintWords Go.Proofs.YtacklfnnpiobgaaW.PrintLast Go.Proofs.YtacklfnnpiobgaaW.PrintMore
attribute [local go_sem] max2_int min2_int max_two min_two max_three min_three max_four min_four   -- for this text's walks alone
set_option linter.unusedVariables false
set_option linter.unusedSimpArgs false

-- NOT PRINTED: function 43 (api_Edge)

/-! ### GIVEN: graph_Reverse: function 38 -/
theorem graph_Reverse.told : True := trivial

/-! ### walk_numbered: function 39 -/
def walk_numbered.l0 : Nat → List Int → List Int → Int → List Int → Int → Int → Option (List Int)
  | 0, _, _, _, _, _, _ => none
  | k + 1, x3, x4, x5, x14, x15, x16 => if x16 < x15 then (if 0 ≤ x16 then (if x16 < (x14.length : Int) then (if 0 ≤ (rd x14 x16) then (if (rd x14 x16) < (x3.length : Int) then (if (rd x3 (rd x14 x16)) < 0 then ((some (x3.set ((rd x14 x16) : Int).toNat x5 : List Int)).bind fun y332 => (if x16 < (x4.length : Int) then (walk_numbered.l0 k y332 (x4.set (x16 : Int).toNat (rd y332 (rd x14 x16))) (wrap64 (x5 + 1)) x14 x15 (wrap64 (x16 + 1))) else (none))) else (if x16 < (x4.length : Int) then (walk_numbered.l0 k x3 (x4.set (x16 : Int).toNat (rd x3 (rd x14 x16))) x5 x14 x15 (wrap64 (x16 + 1))) else (none))) else (none)) else (none)) else (none)) else (none)) else (some x4)
def walk_numbered.f (k : Nat) (l0 : List Int) : Option (List Int) := (walk_filled.f k (l0.length : Int) (-1)).bind fun t324 => (if 0 ≤ (l0.length : Int) then (if ((l0.length : Int) : Int).toNat ≤ 35184372088832 then (walk_numbered.l0 k t324 (List.replicate ((l0.length : Int) : Int).toNat 0) 0 l0 (l0.length : Int) 0) else (none)) else (none))
theorem walk_numbered.mono_l : ∀ k, (∀ y0 y1 y2 y3 y4 y5, LeO (walk_numbered.l0 k y0 y1 y2 y3 y4 y5) (walk_numbered.l0 (k + 1) y0 y1 y2 y3 y4 y5))
  | 0 => fun _ _ _ _ _ _ r h => by simp [walk_numbered.l0] at h
  | k + 1 => by
    have ih0 := walk_numbered.mono_l k
    · intro y0 y1 y2 y3 y4 y5
      unfold walk_numbered.l0
      repeat' first
      | (with_reducible exact ih0 _ _ _ _ _ _)
      | (with_reducible exact walk_filled.mono _ _ _)
      | (with_reducible exact LeO.refl _)
      | (with_reducible exact LeO.none _)
      | (with_reducible refine LeO.ite ?_ ?_)
      | (with_reducible refine LeO.bind ?_ (fun _ => ?_))
      | exact ih0 _ _ _ _ _ _
      | exact walk_filled.mono _ _ _
      | exact LeO.none _
      | refine LeO.ite ?_ ?_
      | refine LeO.bind ?_ (fun _ => ?_)
theorem walk_numbered.mono : ∀ a0 k, LeO (walk_numbered.f k a0) (walk_numbered.f (k + 1) a0) := by
  intro a0 k
  have ih0 := walk_numbered.mono_l k
  unfold walk_numbered.f
  repeat' first
      | (with_reducible exact ih0 _ _ _ _ _ _)
      | (with_reducible exact walk_filled.mono _ _ _)
      | (with_reducible exact LeO.refl _)
      | (with_reducible exact LeO.none _)
      | (with_reducible refine LeO.ite ?_ ?_)
      | (with_reducible refine LeO.bind ?_ (fun _ => ?_))
      | exact ih0 _ _ _ _ _ _
      | exact walk_filled.mono _ _ _
      | exact LeO.none _
      | refine LeO.ite ?_ ?_
      | refine LeO.bind ?_ (fun _ => ?_)
set_option maxHeartbeats 8000000 in
set_option maxRecDepth 100000 in
theorem walk_numbered.calls (k : Nat) (A0 : Option Addr) (c0 : Nat) (l0 : List Int) (r : List Int) (w : World) (hr0 : Kd.C (Kd.int .i64) w A0 l0.length l0) (hc0 : l0.length ≤ c0) (h : walk_numbered.f k l0 = some r) :
    Calls Try.prog 39 #[.slice A0 l0.length c0] w fun e w' => ∃ v0_ : Value, e = .returned (v0_) ∧ Kd.R (Kd.int .i64) 3 w' w.heap.size (fun _ => True) v0_ r ∧ Below w.heap.size w w' := by
 have HR0 := ak hr0
 have HC0 := ak hc0
 clear hr0 hc0
 have HB := ak (Below.refl w.heap.size w)
 have H : ((walk_filled.f k (l0.length : Int) (-1)).bind fun t324 => (if 0 ≤ (l0.length : Int) then (if ((l0.length : Int) : Int).toNat ≤ 35184372088832 then (walk_numbered.l0 k t324 (List.replicate ((l0.length : Int) : Int).toNat 0) 0 l0 (l0.length : Int) 0) else (none)) else (none))) = some r := h
 clear h
 replace H := Option.bind_eq_some_iff.mp H
 obtain ⟨t324, A20, H⟩ := H
 replace H : (if 0 ≤ (l0.length : Int) then (if ((l0.length : Int) : Int).toNat ≤ 35184372088832 then (walk_numbered.l0 k t324 (List.replicate ((l0.length : Int) : Int).toNat 0) 0 l0 (l0.length : Int) 0) else (none)) else (none)) = some r := H
 have A2 := ak A20
 clear A20
 by_cases c3 : 0 ≤ (l0.length : Int)
 rotate_left
 ·
  rw [if_neg c3] at H
  exact absurd H (by simp)

 rw [if_pos c3] at H
 have c3b0 := eq_true c3
 have c3b1 : decide (0 ≤ (l0.length : Int)) = true := decide_eq_true c3
 clear c3
 by_cases c4 : ((l0.length : Int) : Int).toNat ≤ 35184372088832
 rotate_left
 ·
  rw [if_neg c4] at H
  exact absurd H (by simp)
 rw [if_pos c4] at H
 have c4b0 := eq_true c4
 have c4b1 : decide (((l0.length : Int) : Int).toNat ≤ 35184372088832) = true := decide_eq_true c4
 clear c4
 obtain ⟨y327, hy327⟩ : ∃ y_ : List Int, y_ = (List.replicate ((l0.length : Int) : Int).toNat 0) := ⟨_, rfl⟩
 replace H : (walk_numbered.l0 k t324 y327 0 l0 (l0.length : Int) 0) = some r := by first | (rw [hy327]; exact H) | exact H
 have Ny327 := ak hy327
 clear hy327
 have H' := ak H
 clear H
 go_enter Try.func39, Try.ntmps39
 go_wp2_with (first | ((with_reducible refine gate_callee (f := 31) rfl ?_); refine goesL_ (some 10) rfl rfl Try.func31 (by kernel_rfl) rfl #[.int .i64 (l0.length : Int), .int .i64 (-1)] rfl (by (try simp only [List.map_toArray, List.map_cons, List.map_nil]); first | done | rfl | (simp only [List.length_drop, List.length_take]; rfl)) ?_; (with_reducible refine (walk_filled.calls k (l0.length : Int) (-1) t324 _ A2.out).mono ?_); rintro e w5 ⟨v325, rfl, ho0, hb⟩; refine ⟨_, rfl, ?_⟩; have n0_ := ak (Kd.R_lower ho0 (below_size lb)); have n1_ := ak (below_step lb hb); clear HB; have HO326 := n0_; have HB := n1_; clear n0_ n1_; (try clear hb); (try clear hb2); (try clear hk); (try clear hi); (try clear ho0)) | ((with_reducible refine gate_dst (N := 13) rfl ?_); refine Kd.R_make (Kd.int .i64) _ 3 rfl (N := 13) rfl 26 _ _ rfl (l0.length : Int) rfl rfl Try.underlying26 (.int .i64 0) 8 info3 rfl (by decide) (by omega) 0 (ok := fun _ => True) (okp := fun _ => True) rfl (fun _ hk => hk) trivial (oda) (Nat.le_trans (Nat.mul_le_mul_right _ (oda : (l0.length : Int).toNat ≤ 35184372088832)) (by omega)) (Below.refl _ _) (Nat.le_refl _) ?_; intro v328 w6 ho7 hb hg_ hnew_; clear hg_ hnew_; (first | rw [← Ny327.out] at ho7 | (simp only [Int.reduceToNat] at ho7; rw [← Ny327.out] at ho7)); have n0_ := ak (Kd.R_elder' (rx HO326.out) (Kd.R_base ho7) hb); have n1_ := ak (Kd.R_lower (Kd.R_new' ho7 (Kd.R_lt (rx HO326.out))) (below_size lb)); have n2_ := ak (below_step lb hb); clear HO326; clear HB; have HO326 := n0_; have HO329 := n1_; have HB := n2_; clear n0_ n1_ n2_; clear hb ho7))
 go_loopg [5, 16] k (fun kq v5 v16 w' => ∃ (x3_1 : List Int) (x4_1 : List Int) (x5_1 : Int) (x16_1 : Int), v5 = .int .i64 x5_1 ∧ v16 = .int .i64 x16_1 ∧ Aside0 (walk_numbered.l0 kq x3_1 x4_1 x5_1 l0 (l0.length : Int) x16_1 = some r) ∧ Aside0 (kq ≤ k) ∧ Aside0 (Kd.R (Kd.int .i64) 3 w' w.heap.size (fun k_ => some k_ ≠ (v328 : Value).ownBlock) v325 x3_1) ∧ Aside0 (Kd.R (Kd.int .i64) 3 w' w.heap.size (fun k_ => some k_ ≠ (v325 : Value).ownBlock) v328 x4_1) ∧ Aside0 (Below w.heap.size w w'))
 case atStart => exact ⟨(t324), (y327), (0), (0), (by first | rfl | (simp [*]; done)), (by first | rfl | (simp [*]; done)), H', ⟨Nat.le_refl _⟩, ⟨by exact rx (Kd.R_mono HO326.out (fun _ hk => hk.2))⟩, ⟨by exact rx (Kd.R_mono HO329.out (fun _ hk => hk.2))⟩, ⟨lb⟩⟩
 case round =>
  clear H'
  try clear p2; try clear c3; try clear c3b0; try clear c3b1; try clear c4; try clear c4b0; try clear c4b1
  obtain ⟨x3_1, x4_1, x5_1, x16_1, rfl, rfl, HA, HK1, HO_3, HO_4, HB⟩ := hrel
  cases gk with
  | zero => exact absurd HA.out (by simp [walk_numbered.l0])
  | succ k1 =>
   have H := HA.out
   clear HA
   simp only [walk_numbered.l0] at H
   by_cases c8 : x16_1 < (l0.length : Int)
   ·
    rw [if_pos c8] at H
    have c8b0 : decide (x16_1 < (l0.length : Int)) = true := decide_eq_true c8
    clear c8
    by_cases c9 : 0 ≤ x16_1
    rotate_left
    ·
     rw [if_neg c9] at H
     exact absurd H (by simp)
    rw [if_pos c9] at H
    have c9b0 : decide (0 ≤ x16_1) = true := decide_eq_true c9
    clear c9
    by_cases c10 : x16_1 < (l0.length : Int)
    rotate_left
    ·
     rw [if_neg c10] at H
     exact absurd H (by simp)
    rw [if_pos c10] at H
    have c10b0 : decide (x16_1 < (l0.length : Int)) = true := decide_eq_true c10
    clear c10
    by_cases c11 : 0 ≤ (rd l0 x16_1)
    rotate_left
    ·
     rw [if_neg c11] at H
     exact absurd H (by simp)
    rw [if_pos c11] at H
    have c11b0 : decide (0 ≤ (rd l0 x16_1)) = true := decide_eq_true c11
    clear c11
    by_cases c12 : (rd l0 x16_1) < (x3_1.length : Int)
    rotate_left
    ·
     rw [if_neg c12] at H
     exact absurd H (by simp)
    rw [if_pos c12] at H
    have c12b0 : decide ((rd l0 x16_1) < (x3_1.length : Int)) = true := decide_eq_true c12
    clear c12
    by_cases c13 : (rd x3_1 (rd l0 x16_1)) < 0
    ·
     rw [if_pos c13] at H
     have c13b0 : decide ((rd x3_1 (rd l0 x16_1)) < 0) = true := decide_eq_true c13
     clear c13
     obtain ⟨y332, hy332⟩ : ∃ y_ : List Int, y_ = (x3_1.set ((rd l0 x16_1) : Int).toNat x5_1) := ⟨_, rfl⟩
     replace H : (if x16_1 < (x4_1.length : Int) then (walk_numbered.l0 k1 y332 (x4_1.set (x16_1 : Int).toNat (rd y332 (rd l0 x16_1))) (wrap64 (x5_1 + 1)) l0 (l0.length : Int) (wrap64 (x16_1 + 1))) else (none)) = some r := by first | (rw [hy332]; exact H) | exact H
     have Ny332 := ak hy332
     clear hy332
     by_cases c15 : x16_1 < (x4_1.length : Int)
     rotate_left
     ·
      rw [if_neg c15] at H
      exact absurd H (by simp)
     rw [if_pos c15] at H
     have c15b0 : decide (x16_1 < (x4_1.length : Int)) = true := decide_eq_true c15
     clear c15
     obtain ⟨y334, hy334⟩ : ∃ y_ : List Int, y_ = (x4_1.set (x16_1 : Int).toNat (rd y332 (rd l0 x16_1))) := ⟨_, rfl⟩
     replace H : (walk_numbered.l0 k1 y332 y334 (wrap64 (x5_1 + 1)) l0 (l0.length : Int) (wrap64 (x16_1 + 1))) = some r := by first | (rw [hy334]; exact H) | exact H
     have Ny334 := ak hy334
     clear hy334
     have H' := ak H
     clear H
     have p330 : 0 ≤ (x16_1 : Int) := oda
     have q330 : x16_1 < (l0.length : Int) := oda
     obtain ⟨ad330, e330, hx330_0⟩ := Kd.at_int HR0.out x16_1 p330 q330
     cases e330
     (try replace hx330_0 := (HB.out.cell (World.block_lt_of_cell? w _ hx330_0)).trans hx330_0)
     replace p330 := eq_true p330
     replace q330 := eq_true q330
     obtain ⟨Ao17, co17, eo17⟩ := Kd.R_slice HO_3.out
     subst eo17
     have p331 : 0 ≤ ((rd l0 x16_1) : Int) := oda
     have q331 : (rd l0 x16_1) < (x3_1.length : Int) := oda
     obtain ⟨ad331, e331, hx331_0⟩ := Kd.at_int (Kd.R_reads' HO_3.out).2.2 (rd l0 x16_1) p331 q331
     cases e331
     replace p331 := eq_true p331
     replace q331 := eq_true q331
     have p14 : 0 ≤ ((rd l0 x16_1) : Int) := oda
     have q14 : ((rd l0 x16_1) : Int) < ((x3_1.length : Int) : Int) := oda
     obtain ⟨go14, co14, eo14, gb14, gl14, cl14, HG14⟩ := Kd.R_form HO_3.out (by omega)
     (first | cases eo14 | (injection eo14 with ea_ en_ ec_; (first | subst ea_ | (injection ea_ with ea_; subst ea_)); subst ec_; clear en_))
     have GB14 := ak gb14
     have GG14 := ak HG14
     clear gb14 gl14 HG14
     (first | simp only [add_plain] at hx331_0 | skip)
     obtain ⟨hx14_0, hf14_0⟩ := Kd.R_celln 0 HO_3.out ((rd l0 x16_1) : Int) p14 q14
     replace p14 := eq_true p14
     replace q14 := eq_true q14
     have HP18 := Kd.R_putg HO_3.out ((rd l0 x16_1) : Int) x5_1
     go_wp2_with (first | ((with_reducible refine gate_store (t := 3) (p := 29) rfl ?_); refine store_event (t := 3) (p := 29) (v := ?vo_w19) (w1 := (wr.setCell ⟨go14, ((rd l0 x16_1) : Int).toNat, none⟩ (.int .i64 x5_1))) ?hg ?ho ?hn ?hr ?_; (case ho => rfl); (case hg => rfl); (case hn => rfl); (case hr => first | (go_simp; done) | (go_simp; rfl)); intro w19 hw; have hg : wr.grownBy w19 (some go14) := (by rw [hw]; exact HP18.2); have hp_ : Kd.R (Kd.int .i64) 3 w19 w.heap.size (fun k_ => some k_ ≠ (v328 : Value).ownBlock) (.slice (some ⟨go14, 0, none⟩) x3_1.length co17) y332 := (by rw [hw, Ny332.out]; exact HP18.1); clear HP18; have n0_ := ak (hp_); have n1_ := ak (Kd.R_after (v := (.slice (some ⟨go14, 0, none⟩) x3_1.length co17)) (v1 := (.slice (some ⟨go14, 0, none⟩) x3_1.length co17)) (ok := (fun _ => True)) (by exact rx (Kd.R_mono HO_4.out (fun _ hk => ⟨trivial, hk⟩))) hg (.inl rfl)); have n2_ := ak ((by rw [hw]; exact below_set (HB.out) GB14.out : Below w.heap.size w w19)); clear HO_3; clear HO_4; clear HB; have HO_3 := n0_; have HO_4 := n1_; have HB := n2_; clear n0_ n1_ n2_; clear hg hw hp_; have p333 : 0 ≤ ((rd l0 x16_1) : Int) := oda; have q333 : (rd l0 x16_1) < (y332.length : Int) := (by have h_ : ((rd l0 x16_1) : Int) < ((x3_1.length : Int) : Int) := oda; first | (have e_ := (Kd.R_reads' HO_3.out).1; omega) | simpa only [Ny332.out, List.length_set] using h_); have ql333 : (((rd l0 x16_1) : Int) < ((x3_1.length : Int) : Int)) = True := eq_true (oda); obtain ⟨ad333, e333, hx333_0⟩ := Kd.at_int (Kd.R_reads' HO_3.out).2.2 (rd l0 x16_1) p333 q333; obtain rfl : (⟨go14, 0, none⟩ : Addr) = ad333 := (by injection e333); (first | simp only [add_plain] at hx333_0 | simp only [add_at] at hx333_0 | simp only [Addr.add, Nat.zero_add] at hx333_0 | skip); replace p333 := eq_true p333; replace q333 := eq_true q333; have p16 : 0 ≤ (x16_1 : Int) := oda; have q16 : (x16_1 : Int) < ((x4_1.length : Int) : Int) := oda; obtain ⟨go16, co16, eo16, gb16, gl16, cl16, HG16⟩ := Kd.R_form HO_4.out (by omega); (first | cases eo16 | (injection eo16 with ea_ en_ ec_; (first | subst ea_ | (injection ea_ with ea_; subst ea_)); subst ec_; clear en_)); have GB16 := ak gb16; have GG16 := ak HG16; clear gb16 gl16 HG16; obtain ⟨hx16_0, hf16_0⟩ := Kd.R_celln 0 HO_4.out (x16_1 : Int) p16 q16; replace p16 := eq_true p16; replace q16 := eq_true q16; have n_ := ak (Kd.R_mono (ok' := (fun k_ => some k_ ≠ (.slice (some ⟨go14, 0, none⟩) x3_1.length co17 : Value).ownBlock)) HO_4.out (fun k_ hk => hk.2)); clear HO_4; have HO_4 := n_; clear n_; obtain ⟨hy20_, hz20_⟩ := Kd.R_celln 0 HO_4.out (x16_1 : Int) (oda) (oda); have HP20 := Kd.R_putg HO_4.out (x16_1 : Int) (rd y332 (rd l0 x16_1))) | ((with_reducible refine gate_store (t := 3) (p := 38) rfl ?_); refine store_event (t := 3) (p := 38) (v := ?vo_w21) (w1 := (w19.setCell ⟨go16, (x16_1 : Int).toNat, none⟩ (.int .i64 (rd y332 (rd l0 x16_1))))) ?hg ?ho ?hn ?hr ?_; (case ho => rfl); (case hg => rfl); (case hn => rfl); (case hr => first | (go_simp; done) | (go_simp; rfl)); intro w21 hw; have hg : w19.grownBy w21 (some go16) := (by rw [hw]; exact HP20.2); have hp_ : Kd.R (Kd.int .i64) 3 w21 w.heap.size (fun k_ => some k_ ≠ (.slice (some ⟨go14, 0, none⟩) x3_1.length co17 : Value).ownBlock) (.slice (some ⟨go16, 0, none⟩) x4_1.length co16) y334 := (by rw [hw, Ny334.out]; exact HP20.1); clear HP20; have n0_ := ak (Kd.R_after (v := (.slice (some ⟨go16, 0, none⟩) x4_1.length co16)) (v1 := (.slice (some ⟨go16, 0, none⟩) x4_1.length co16)) (ok := (fun _ => True)) (by exact rx (Kd.R_mono HO_3.out (fun _ hk => ⟨trivial, hk⟩))) hg (.inl rfl)); have n1_ := ak (hp_); have n2_ := ak ((by rw [hw]; exact below_set (HB.out) GB16.out : Below w.heap.size w w21)); clear HO_3; clear HO_4; clear HB; have HO_3 := n0_; have HO_4 := n1_; have HB := n2_; clear n0_ n1_ n2_; clear hg hw hp_))
     go_roundg k1
     case measure => have := HK1.out; omega
     case rel => exact ⟨(y332), (y334), (wrap64 (x5_1 + 1)), (wrap64 (x16_1 + 1)), (by first | rfl | (simp [*]; done)), (by first | rfl | (simp [*]; done)), H', ⟨by have := HK1.out; omega⟩, ⟨by exact rx (Kd.R_mono HO_3.out (fun _ hk => hk.2))⟩, ⟨rx HO_4.out⟩, ⟨lb⟩⟩
    ·
     rw [if_neg c13] at H
     have c13b0 : decide ((rd x3_1 (rd l0 x16_1)) < 0) = false := decide_eq_false c13
     clear c13
     by_cases c22 : x16_1 < (x4_1.length : Int)
     rotate_left
     ·
      rw [if_neg c22] at H
      exact absurd H (by simp)
     rw [if_pos c22] at H
     have c22b0 : decide (x16_1 < (x4_1.length : Int)) = true := decide_eq_true c22
     clear c22
     obtain ⟨y336, hy336⟩ : ∃ y_ : List Int, y_ = (x4_1.set (x16_1 : Int).toNat (rd x3_1 (rd l0 x16_1))) := ⟨_, rfl⟩
     replace H : (walk_numbered.l0 k1 x3_1 y336 x5_1 l0 (l0.length : Int) (wrap64 (x16_1 + 1))) = some r := by first | (rw [hy336]; exact H) | exact H
     have Ny336 := ak hy336
     clear hy336
     have H' := ak H
     clear H
     have p330 : 0 ≤ (x16_1 : Int) := oda
     have q330 : x16_1 < (l0.length : Int) := oda
     obtain ⟨ad330, e330, hx330_0⟩ := Kd.at_int HR0.out x16_1 p330 q330
     cases e330
     (try replace hx330_0 := (HB.out.cell (World.block_lt_of_cell? w _ hx330_0)).trans hx330_0)
     replace p330 := eq_true p330
     replace q330 := eq_true q330
     obtain ⟨Ao24, co24, eo24⟩ := Kd.R_slice HO_3.out
     subst eo24
     have p331 : 0 ≤ ((rd l0 x16_1) : Int) := oda
     have q331 : (rd l0 x16_1) < (x3_1.length : Int) := oda
     obtain ⟨ad331, e331, hx331_0⟩ := Kd.at_int (Kd.R_reads' HO_3.out).2.2 (rd l0 x16_1) p331 q331
     cases e331
     replace p331 := eq_true p331
     replace q331 := eq_true q331
     have p335 : 0 ≤ ((rd l0 x16_1) : Int) := oda
     have q335 : (rd l0 x16_1) < (x3_1.length : Int) := oda
     obtain ⟨ad335, e335, hx335_0⟩ := Kd.at_int (Kd.R_reads' HO_3.out).2.2 (rd l0 x16_1) p335 q335
     obtain rfl : ad331 = ad335 := (by injection e335)
     replace p335 := eq_true p335
     replace q335 := eq_true q335
     have p23 : 0 ≤ (x16_1 : Int) := oda
     have q23 : (x16_1 : Int) < ((x4_1.length : Int) : Int) := oda
     obtain ⟨go23, co23, eo23, gb23, gl23, cl23, HG23⟩ := Kd.R_form HO_4.out (by omega)
     (first | cases eo23 | (injection eo23 with ea_ en_ ec_; (first | subst ea_ | (injection ea_ with ea_; subst ea_)); subst ec_; clear en_))
     have GB23 := ak gb23
     have GG23 := ak HG23
     clear gb23 gl23 HG23
     obtain ⟨hx23_0, hf23_0⟩ := Kd.R_celln 0 HO_4.out (x16_1 : Int) p23 q23
     replace p23 := eq_true p23
     replace q23 := eq_true q23
     have HP25 := Kd.R_putg HO_4.out (x16_1 : Int) (rd x3_1 (rd l0 x16_1))
     go_wp2_with (first | ((with_reducible refine gate_store (t := 3) (p := 38) rfl ?_); refine store_event (t := 3) (p := 38) (v := ?vo_w26) (w1 := (wr.setCell ⟨go23, (x16_1 : Int).toNat, none⟩ (.int .i64 (rd x3_1 (rd l0 x16_1))))) ?hg ?ho ?hn ?hr ?_; (case ho => rfl); (case hg => rfl); (case hn => rfl); (case hr => first | (go_simp; done) | (go_simp; rfl)); intro w26 hw; have hg : wr.grownBy w26 (some go23) := (by rw [hw]; exact HP25.2); have hp_ : Kd.R (Kd.int .i64) 3 w26 w.heap.size (fun k_ => some k_ ≠ (.slice (some ad331) x3_1.length co24 : Value).ownBlock) (.slice (some ⟨go23, 0, none⟩) x4_1.length co23) y336 := (by rw [hw, Ny336.out]; exact HP25.1); clear HP25; have n0_ := ak (Kd.R_after (v := (.slice (some ⟨go23, 0, none⟩) x4_1.length co23)) (v1 := (.slice (some ⟨go23, 0, none⟩) x4_1.length co23)) (ok := (fun _ => True)) (by exact rx (Kd.R_mono HO_3.out (fun _ hk => ⟨trivial, hk⟩))) hg (.inl rfl)); have n1_ := ak (hp_); have n2_ := ak ((by rw [hw]; exact below_set (HB.out) GB23.out : Below w.heap.size w w26)); clear HO_3; clear HO_4; clear HB; have HO_3 := n0_; have HO_4 := n1_; have HB := n2_; clear n0_ n1_ n2_; clear hg hw hp_))
     go_roundg k1
     case measure => have := HK1.out; omega
     case rel => exact ⟨(x3_1), (y336), (x5_1), (wrap64 (x16_1 + 1)), (by first | rfl | (simp [*]; done)), (by first | rfl | (simp [*]; done)), H', ⟨by have := HK1.out; omega⟩, ⟨by exact rx (Kd.R_mono HO_3.out (fun _ hk => hk.2))⟩, ⟨rx HO_4.out⟩, ⟨lb⟩⟩
   ·
    rw [if_neg c8] at H
    have c8b0 : decide (x16_1 < (l0.length : Int)) = false := decide_eq_false c8
    clear c8
    obtain rfl := Option.some.inj H
    go_wp2
    go_ret
    exact ⟨_, by first | rfl | (simp [errW_none, errW_some] <;> rfl) | (simp [*, errW_none, errW_some] <;> rfl), by exact rx (Kd.R_mono HO_4.out (fun _ hk => trivial)), lb⟩
end Go.Proofs.Ytacklfnnpiobgaa.Q
