import Derived.Test.YtplbkggdnonfbaaQ0
namespace Go.Proofs.Ytplbkggdnonfbaa.Q
open Go.RowKit Go.Proofs.YtplbkggdnonfbaaW.PrintWords Go.Proofs.YtplbkggdnonfbaaW.PrintLast Go.Proofs.YtplbkggdnonfbaaW.PrintMore
attribute [local go_sem] max2_int min2_int max_two min_two max_three min_three max_four min_four   -- for this text's walks alone
set_option linter.unusedVariables false
set_option linter.unusedSimpArgs false

/-! ### walk_filled: function 36 -/
def walk_filled.l0 : Nat → Int → List Int → Int → Int → Option (List Int)
  | 0, _, _, _, _ => none
  | k + 1, x1, x5, x10, x11 => if x11 < x10 then (if 0 ≤ x11 then (if x11 < (x5.length : Int) then (walk_filled.l0 k x1 (x5.set (x11 : Int).toNat x1) x10 (wrap64 (x11 + 1))) else (none)) else (none)) else (some x5)
def walk_filled.f (k : Nat) (a0 : Int) (a1 : Int) : Option (List Int) := if 0 ≤ a0 then (if (a0 : Int).toNat ≤ 35184372088832 then ((some (List.replicate (a0 : Int).toNat 0 : List Int)).bind fun y120 => (walk_filled.l0 k a1 y120 (y120.length : Int) 0)) else (none)) else (none)
theorem walk_filled.mono_l : ∀ k, (∀ y0 y1 y2 y3, LeO (walk_filled.l0 k y0 y1 y2 y3) (walk_filled.l0 (k + 1) y0 y1 y2 y3))
  | 0 => fun _ _ _ _ r h => by simp [walk_filled.l0] at h
  | k + 1 => by
    have ih0 := walk_filled.mono_l k
    · intro y0 y1 y2 y3
      unfold walk_filled.l0
      repeat' first
      | (with_reducible exact ih0 _ _ _ _)
      | (with_reducible exact LeO.refl _)
      | (with_reducible exact LeO.none _)
      | (with_reducible refine LeO.ite ?_ ?_)
      | (with_reducible refine LeO.bind ?_ (fun _ => ?_))
      | exact ih0 _ _ _ _
      | exact LeO.none _
      | refine LeO.ite ?_ ?_
      | refine LeO.bind ?_ (fun _ => ?_)
theorem walk_filled.mono : ∀ a0 a1 k, LeO (walk_filled.f k a0 a1) (walk_filled.f (k + 1) a0 a1) := by
  intro a0 a1 k
  have ih0 := walk_filled.mono_l k
  unfold walk_filled.f
  repeat' first
      | (with_reducible exact ih0 _ _ _ _)
      | (with_reducible exact LeO.refl _)
      | (with_reducible exact LeO.none _)
      | (with_reducible refine LeO.ite ?_ ?_)
      | (with_reducible refine LeO.bind ?_ (fun _ => ?_))
      | exact ih0 _ _ _ _
      | exact LeO.none _
      | refine LeO.ite ?_ ?_
      | refine LeO.bind ?_ (fun _ => ?_)
set_option maxHeartbeats 8000000 in
set_option maxRecDepth 100000 in
theorem walk_filled.calls (k : Nat) (a0 : Int) (a1 : Int) (r : List Int) (w : World) (h : walk_filled.f k a0 a1 = some r) :
    Calls Try.prog 36 #[.int .i64 a0, .int .i64 a1] w fun e w' => ∃ v0_ : Value, e = .returned (v0_) ∧ Kd.R (Kd.int .i64) 3 w' w.heap.size (fun _ => True) v0_ r ∧ Below w.heap.size w w' := by
 have HB := ak (Below.refl w.heap.size w); have H : (if 0 ≤ a0 then (if (a0 : Int).toNat ≤ 35184372088832 then ((some (List.replicate (a0 : Int).toNat 0 : List Int)).bind fun y120 => (walk_filled.l0 k a1 y120 (y120.length : Int) 0)) else (none)) else (none)) = some r := h; clear h; replace H := ife H; obtain ⟨c3b0, c3b1, H⟩ := H; replace H := ife H; obtain ⟨c4b0, c4b1, H⟩ := H; obtain ⟨y120, hy120⟩ : ∃ y_ : List Int, y_ = (List.replicate (a0 : Int).toNat 0) := ⟨_, rfl⟩; replace H := bs hy120 H; have Ny120 := ak hy120; clear hy120; have H' := ak H; clear H
 go_enter Try.func36, Try.ntmps36
 go_wp2_with (first | ((with_reducible refine gate_dst (N := 8) rfl ?_); refine Kd.R_make (Kd.int .i64) _ 3 rfl (N := 8) rfl 62 _ _ rfl a0 rfl rfl Try.underlying62 (.int .i64 0) 8 info3 rfl (by decide) (by omega) 0 (ok := fun _ => True) (okp := fun _ => True) rfl (fun _ hk => hk) trivial (oda) (Nat.le_trans (Nat.mul_le_mul_right _ (oda : a0.toNat ≤ 35184372088832)) (by omega)) (Below.refl _ _) (Nat.le_refl _) ?_; intro v121 w5 ho6 hb hg_ hnew_; clear hg_ hnew_; (first | rw [← Ny120.out] at ho6 | (simp only [Int.reduceToNat] at ho6; rw [← Ny120.out] at ho6)); have n_ := a2 (Kd.R_lower ho6 (below_size lb)) (below_step lb hb); clear HB; obtain ⟨HO122, HB⟩ := n_; clear hb ho6; obtain ⟨Ao7, co7, eo7⟩ := Kd.R_slice HO122.out; subst eo7))
 go_loopg [11] k (fun kq v11 w' => ∃ (x5_1 : List Int) (x11_1 : Int), v11 = .int .i64 x11_1 ∧ Aside0 (walk_filled.l0 kq a1 x5_1 (y120.length : Int) x11_1 = some r) ∧ Aside0 (kq ≤ k) ∧ Aside0 (Kd.R (Kd.int .i64) 3 w' w.heap.size (fun _ => True) (.slice Ao7 y120.length co7) x5_1) ∧ Aside0 (Below w.heap.size w w'))
 case atStart => exact ⟨(y120), (0), (by first | rfl | (simp [*]; done)), H', ⟨Nat.le_refl _⟩, ⟨rx HO122.out⟩, ⟨lb⟩⟩
 case round =>
  clear H'; obtain ⟨x5_1, x11_1, rfl, HA, HK1, HO_5, HB⟩ := hrel; have hl5_1 := (Kd.R_reads' HO_5.out).1; rw [hl5_1] at HO_5
  (try simp only [hl5_1])
  cases gk with
  | zero => exact absurd HA.out (by simp [walk_filled.l0])
  | succ k1 =>
   have H := HA.out; clear HA
   simp only [walk_filled.l0] at H
   by_cases c8 : x11_1 < (y120.length : Int)
   ·
    rw [if_pos c8] at H; have c8b0 := decide_eq_true c8; clear c8; replace H := ifd H; obtain ⟨c9b0, H⟩ := H; replace H := ifd H; obtain ⟨c10b0, H⟩ := H; obtain ⟨y123, hy123⟩ : ∃ y_ : List Int, y_ = (x5_1.set (x11_1 : Int).toNat a1) := ⟨_, rfl⟩; rw [← hy123] at H; have Ny123 := ak hy123; clear hy123; have H' := ak H; clear H; have p11 : 0 ≤ (x11_1 : Int) := oda; have q11 : (x11_1 : Int) < ((x5_1.length : Int) : Int) := oda
    obtain ⟨go11, co11, eo11, gb11, gl11, cl11, HG11⟩ := Kd.R_form HO_5.out (by omega)
    (first | cases eo11 | (injection eo11 with ea_ en_ ec_; (first | subst ea_ | (injection ea_ with ea_; subst ea_)); subst ec_; clear en_))
    have GB11 := ak gb11; have GG11 := ak HG11; clear gb11 gl11 HG11; obtain ⟨hx11_0, hf11_0⟩ := Kd.R_celln 0 HO_5.out (x11_1 : Int) p11 q11; replace p11 := eq_true p11; replace q11 := eq_true q11; have HP12 := Kd.R_putg HO_5.out (x11_1 : Int) a1
    go_wp2_with (first | ((with_reducible refine gate_store (t := 3) (p := 17) rfl ?_); refine store_event (t := 3) (p := 17) (v := ?vo_w13) (w1 := (wr.setCell ⟨go11, (x11_1 : Int).toNat, none⟩ (.int .i64 a1))) ?hg ?ho ?hn ?hr ?_; (case ho => rfl); (case hg => rfl); (case hn => rfl); (case hr => first | (go_simp; done) | (go_simp; rfl)); intro w13 hw; have hg : wr.grownBy w13 (some go11) := (by rw [hw]; exact HP12.2); have hp_ : Kd.R (Kd.int .i64) 3 w13 w.heap.size (fun _ => True) (.slice (some ⟨go11, 0, none⟩) x5_1.length co7) y123 := (by rw [hw, Ny123.out]; exact HP12.1); clear HP12; have n_ := a2 hp_ (by rw [hw]; exact below_set (HB.out) GB11.out : Below w.heap.size w w13); clear HO_5 HB; obtain ⟨HO_5, HB⟩ := n_; clear hg hw hp_))
    (try simp only [← hl5_1])
    go_roundg k1
    case measure => have := HK1.out; omega
    case rel => exact ⟨(y123), (wrap64 (x11_1 + 1)), (by first | rfl | (simp [*]; done)), H', ⟨by have := HK1.out; omega⟩, ⟨by (try simp only [hl5_1]); exact rx HO_5.out⟩, ⟨lb⟩⟩
   ·
    rw [if_neg c8] at H; have c8b0 : decide (x11_1 < (y120.length : Int)) = false := decide_eq_false c8
    (try simp only [hl5_1] at c8b0)
    clear c8; obtain rfl := Option.some.inj H
    go_wp2
    go_ret
    exact ⟨_, by first | rfl | (simp [errW_none, errW_some] <;> rfl) | (simp [*, errW_none, errW_some] <;> rfl), by exact rx HO_5.out, lb⟩
end Go.Proofs.Ytplbkggdnonfbaa.Q
