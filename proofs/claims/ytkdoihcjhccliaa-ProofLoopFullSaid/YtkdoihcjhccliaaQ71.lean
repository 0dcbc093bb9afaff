import Derived.Test.YtkdoihcjhccliaaV4
import Derived.Test.YtkdoihcjhccliaaQ0
import Derived.Test.YtkdoihcjhccliaaQ3
import Derived.Test.YtkdoihcjhccliaaQ23
import Derived.Test.YtkdoihcjhccliaaQ70
namespace Go.Proofs.Ytkdoihcjhccliaa.Q
open Go.RowKit Go.Proofs.YtkdoihcjhccliaaW.PrintWords Go.Proofs.YtkdoihcjhccliaaW.PrintLast Go.Proofs.YtkdoihcjhccliaaW.PrintMore
attribute [local go_sem] max2_int min2_int max_two min_two max_three min_three max_four min_four   -- for this text's walks alone
set_option linter.unusedVariables false
set_option linter.unusedSimpArgs false

/-! ### compassref04_Order: function 42 -/
mutual
def compassref04_Order.l0 : Nat → List Bool → List Int → Int → List (S98) → Option (List Int × Int)
  | 0, _, _, _, _ => none
  | k + 1, x6, x7, x430000, x430001 => if (x7.length : Int) < x430000 then (compassref04_Order.l1 k x6 x7 (-1) (wrap64 (x430000 - 1)) x430000 x430001) else (some (x7, 0))
def compassref04_Order.l1 : Nat → List Bool → List Int → Int → Int → Int → List (S98) → Option (List Int × Int)
  | 0, _, _, _, _, _, _ => none
  | k + 1, x6, x7, x8, x9, x430000, x430001 => if x9 ≥ 0 then (if 0 ≤ x9 then (if x9 < (x6.length : Int) then (if rdOf false x6 x9 = true then (compassref04_Order.l1 k x6 x7 x8 (wrap64 (x9 - 1)) x430000 x430001) else ((compassref04_may.f k x430000 x430001 x6 x9).bind fun t436 => (if t436 = true then (compassref04_Order.l1 k x6 x7 x9 (wrap64 (x9 - 1)) x430000 x430001) else (compassref04_Order.l1 k x6 x7 x8 (wrap64 (x9 - 1)) x430000 x430001)))) else (none)) else (none)) else (if x8 < 0 then (some (([] : List Int), 71)) else (if 0 ≤ x8 then (if x8 < (x6.length : Int) then (if x7.length < 17592186044416 then (compassref04_Order.l0 k (x6.set (x8 : Int).toNat true) (x7 ++ [x8]) x430000 x430001) else (none)) else (none)) else (none)))
end
def compassref04_Order.f (k : Nat) (a0_0 : Int) (l0_1 : List (S98)) : Option (List Int × Int) := (compassref03_Check.f k a0_0 l0_1).bind fun bt430 => (if bt430.1 = 0 then (if 0 ≤ a0_0 then (if (a0_0 : Int).toNat ≤ 281474976710656 then (compassref04_Order.l0 k (List.replicate (a0_0 : Int).toNat false) ([] : List Int) a0_0 l0_1) else (none)) else (none)) else (some (([] : List Int), bt430.1)))
set_option maxHeartbeats 8000000 in
set_option maxRecDepth 100000 in
theorem compassref04_Order.calls (k : Nat) (a0_0 : Int) (A0_1 : Option Addr) (c0_1 : Nat) (l0_1 : List (S98)) (r1 : List Int) (r2 : Int) (w : World) (hr0_1 : Kd.C k98 w A0_1 l0_1.length l0_1) (hc0_1 : l0_1.length ≤ c0_1) (h : compassref04_Order.f k a0_0 l0_1 = some (r1, r2)) :
    Calls Try.prog 42 #[.agg #[.int .i64 a0_0, .slice A0_1 l0_1.length c0_1]] w fun e w' => ∃ v0_ : Value, e = .returned (.tuple #[v0_, .int .i64 r2]) ∧ Kd.R (Kd.int .i64) 3 w' w.heap.size (fun _ => True) v0_ r1 ∧ Below w.heap.size w w' := by
 have hu24 := Try.underlying24; have HR0_1 := ak hr0_1; have HC0_1 := ak hc0_1; clear hr0_1 hc0_1; have HB := ak (Below.refl w.heap.size w); have H : ((compassref03_Check.f k a0_0 l0_1).bind fun bt430 => (if bt430.1 = 0 then (if 0 ≤ a0_0 then (if (a0_0 : Int).toNat ≤ 281474976710656 then (compassref04_Order.l0 k (List.replicate (a0_0 : Int).toNat false) ([] : List Int) a0_0 l0_1) else (none)) else (none)) else (some (([] : List Int), bt430.1)))) = some (r1, r2) := h; clear h; replace H := Option.bind_eq_some_iff.mp H; obtain ⟨⟨t430, t431⟩, A20, H⟩ := H; dsimp only at H; have A2 := ak A20; clear A20
 by_cases c3 : t430 = 0
 rotate_left
 ·
  rw [if_neg c3] at H; have c3b := bn2 c3
  simp only [Option.some.injEq, Prod.mk.injEq] at H
  obtain ⟨rfl, rfl⟩ := H
  go_enter Try.func42, Try.ntmps42
  go_wp2_with (first | ((with_reducible refine gate_dst (N := 1) rfl ?_); refine bxe 1 #[.int .i64 a0_0, .slice A0_1 l0_1.length c0_1] 24 ?_; intro gb429 hg w39 hbox hb; have n_ := a4 (bl hb) hbox (gw w hg) (gw w hg); clear HB; obtain ⟨HB, BK429, GW429, GE429⟩ := n_; clear hb hbox hg; have ⟨_, _, _, _⟩ := cf2 BK429) | ((with_reducible refine gate_callee (f := 44) rfl ?_); refine gl 12 Try.func44 #[.agg #[.int .i64 a0_0, .slice A0_1 l0_1.length c0_1]] ?_; (with_reducible refine (compassref03_Check.calls k a0_0 _ _ l0_1 t430 t431 _ (Kd.C_below HR0_1.out lb) HC0_1.out A2.out).mono ?_); rintro e w41 ⟨rfl, hb⟩; refine ⟨_, rfl, ?_⟩; have n_ := a2 (bo BK429 hb) (bl hb); clear BK429 HB; obtain ⟨BK429, HB⟩ := n_; clear hb))
  go_ret2
  exact ⟨_, by first | rfl | (simp [errW_none, errW_some] <;> rfl) | (simp [*, errW_none, errW_some] <;> rfl), by first | exact Kd.R_nil _ _ _ _ _ | exact Kd.N_nil _ _ _ _ _ | exact Kd.V_nil _ _ _ _ _ | exact Kd.Q_nil _ _ _ _ _ | exact Kd.S_nil _ _ _ _ _, lb⟩
 rw [if_pos c3] at H; have c3b := be2 c3; clear c3; replace H := ife H; obtain ⟨c4b0, c4b1, H⟩ := H; replace H := ife H; obtain ⟨c5b0, c5b1, H⟩ := H; obtain ⟨y432, hy432⟩ : ∃ y_ : List Bool, y_ = (List.replicate (a0_0 : Int).toNat false) := ⟨_, rfl⟩; replace H : (compassref04_Order.l0 k y432 ([] : List Int) a0_0 l0_1) = some (r1, r2) := by first | (rw [hy432]; exact H) | exact H
 have Ny432 := ak hy432; clear hy432; have H' := ak H; clear H
 go_enter Try.func42, Try.ntmps42
 go_wp2_with (first | ((with_reducible refine gate_dst (N := 1) rfl ?_); refine bxe 1 #[.int .i64 a0_0, .slice A0_1 l0_1.length c0_1] 24 ?_; intro gb429 hg w6 hbox hb; have n_ := a4 (bl hb) hbox (gw w hg) (gw w hg); clear HB; obtain ⟨HB, BK429, GW429, GE429⟩ := n_; clear hb hbox hg; have ⟨_, _, _, _⟩ := cf2 BK429) | ((with_reducible refine gate_callee (f := 44) rfl ?_); refine gl 12 Try.func44 #[.agg #[.int .i64 a0_0, .slice A0_1 l0_1.length c0_1]] ?_; (with_reducible refine (compassref03_Check.calls k a0_0 _ _ l0_1 t430 t431 _ (Kd.C_below HR0_1.out lb) HC0_1.out A2.out).mono ?_); rintro e w8 ⟨rfl, hb⟩; refine ⟨_, rfl, ?_⟩; have n_ := a2 (bo BK429 hb) (bl hb); clear BK429 HB; obtain ⟨BK429, HB⟩ := n_; clear hb; have ⟨_, _, _, _⟩ := cf2 BK429) | ((with_reducible refine gate_dst (N := 20) rfl ?_); refine Kd.R_make Kd.bool _ 4 rfl (N := 20) rfl 26 _ _ rfl a0_0 rfl rfl Try.underlying26 (.bool false) 1 info4 rfl (by decide) (by omega) false (ok := fun _ => True) (okp := fun _ => True) rfl (fun _ hk => hk) trivial (oda) (Nat.le_trans (Nat.mul_le_mul_right _ (oda : a0_0.toNat ≤ 281474976710656)) (by omega)) (Below.refl _ _) (Nat.le_refl _) ?_; intro v433 w10 ho11 hb hg_ hnew_; clear hg_ hnew_; (first | rw [← Ny432.out] at ho11 | (simp only [Int.reduceToNat] at ho11; rw [← Ny432.out] at ho11)); have n_ := a3 (Kd.R_lower ho11 (below_size lb)) (bo BK429 hb) (bl hb); clear BK429 HB; obtain ⟨HO434, BK429, HB⟩ := n_; clear hb ho11))
 go_loopg [7] k (fun kq v7 w' => ∃ (x6_1 : List Bool) (x7_1 : List Int), Aside0 (compassref04_Order.l0 kq x6_1 x7_1 a0_0 l0_1 = some (r1, r2)) ∧ Aside0 (kq ≤ k) ∧ Aside0 (Kd.R Kd.bool 4 w' w.heap.size (fun _ => True) v433 x6_1) ∧ Aside0 (Kd.R (Kd.int .i64) 3 w' w.heap.size (fun _ => True) v7 x7_1) ∧ Aside0 (w'.heap[gb429]? = some (.cells #[.int .i64 a0_0, (.slice A0_1 l0_1.length c0_1)] 24 (0, 0))) ∧ Aside0 (Below w.heap.size w w'))
 case atStart => exact ⟨(y432), (([] : List Int)), H', ⟨Nat.le_refl _⟩, ⟨rx HO434.out⟩, ⟨by first | exact Kd.R_nil _ _ _ _ _ | exact Kd.N_nil _ _ _ _ _ | exact Kd.V_nil _ _ _ _ _ | exact Kd.Q_nil _ _ _ _ _ | exact Kd.S_nil _ _ _ _ _⟩, xb BK429, ⟨lb⟩⟩
 clear H'; obtain ⟨x6_1, x7_1, HA, HK1, HO_6, HO_7, BK429, HB⟩ := hrel
 cases gk with
 | zero => exact absurd HA.out (by simp [compassref04_Order.l0])
 | succ k1 => ?_
 have H := HA.out; clear HA
 simp only [compassref04_Order.l0] at H
 by_cases c12 : (x7_1.length : Int) < a0_0
 rotate_left
 ·
  rw [if_neg c12] at H; have c12b0 := decide_eq_false c12; clear c12
  simp only [Option.some.injEq, Prod.mk.injEq] at H
  obtain ⟨rfl, rfl⟩ := H; obtain ⟨Ao37, co37, eo37⟩ := Kd.R_slice HO_7.out; subst eo37; have ⟨_, _, _, _⟩ := cf2 BK429
  go_wp2
  go_ret2
  exact ⟨_, by first | rfl | (simp [errW_none, errW_some] <;> rfl) | (simp [*, errW_none, errW_some] <;> rfl), by exact rx HO_7.out, lb⟩
 rw [if_pos c12] at H; have c12b0 := decide_eq_true c12; clear c12; have H' := ak H; clear H; obtain ⟨Ao13, co13, eo13⟩ := Kd.R_slice HO_7.out; subst eo13; have ⟨_, _, _, _⟩ := cf2 BK429
 go_wp2
 go_loopg [8, 9] k1 (fun kq v8 v9 w' => ∃ (x8_2 : Int) (x9_2 : Int), v8 = .int .i64 x8_2 ∧ v9 = .int .i64 x9_2 ∧ Aside0 (compassref04_Order.l1 kq x6_1 x7_1 x8_2 x9_2 a0_0 l0_1 = some (r1, r2)) ∧ Aside0 (kq ≤ k1) ∧ Aside0 (Kd.R Kd.bool 4 w' w.heap.size (fun _ => True) v433 x6_1) ∧ Aside0 (Kd.R (Kd.int .i64) 3 w' w.heap.size (fun _ => True) (.slice Ao13 x7_1.length co13) x7_1) ∧ Aside0 (w'.heap[gb429]? = some (.cells #[.int .i64 a0_0, (.slice A0_1 l0_1.length c0_1)] 24 (0, 0))) ∧ Aside0 (Below w.heap.size w w'))
 case atStart => exact ⟨((-1)), (wrap64 (a0_0 - 1)), sr, sr, H', ⟨Nat.le_refl _⟩, ⟨rx HO_6.out⟩, ⟨rx HO_7.out⟩, xb BK429, ⟨lb⟩⟩
 clear H'; obtain ⟨x8_2, x9_2, rfl, rfl, HA, HK2, HO_6, HO_7, BK429, HB⟩ := hrel
 cases gk with
 | zero => exact absurd HA.out (by simp [compassref04_Order.l1])
 | succ k2 => ?_
 have H := HA.out; clear HA
 simp only [compassref04_Order.l1] at H
 by_cases c15 : x9_2 ≥ 0
 rotate_left
 ·
  rw [if_neg c15] at H; have c15b0 := decide_eq_false c15; clear c15
  by_cases c29 : x8_2 < 0
  ·
   rw [if_pos c29] at H; have c29b0 := decide_eq_true c29; clear c29
   simp only [Option.some.injEq, Prod.mk.injEq] at H
   obtain ⟨rfl, rfl⟩ := H
   go_wp2
   go_ret2
   exact ⟨_, by first | rfl | (simp [errW_none, errW_some] <;> rfl) | (simp [*, errW_none, errW_some] <;> rfl), by first | exact Kd.R_nil _ _ _ _ _ | exact Kd.N_nil _ _ _ _ _ | exact Kd.V_nil _ _ _ _ _ | exact Kd.Q_nil _ _ _ _ _ | exact Kd.S_nil _ _ _ _ _, lb⟩
  rw [if_neg c29] at H; have c29b0 := decide_eq_false c29; clear c29; replace H := if2 H; obtain ⟨c30b0, c31b0, H⟩ := H; obtain ⟨y437, hy437⟩ : ∃ y_ : List Bool, y_ = (x6_1.set (x8_2 : Int).toNat true) := ⟨_, rfl⟩; replace H : (if x7_1.length < 17592186044416 then (compassref04_Order.l0 k2 y437 (x7_1 ++ [x8_2]) a0_0 l0_1) else (none)) = some (r1, r2) := by first | (rw [hy437]; exact H) | exact H
  have Ny437 := ak hy437; clear hy437; replace H := ifn H; obtain ⟨c33, H⟩ := H; have LMc33 := ak c33; clear c33; obtain ⟨y438, hy438⟩ : ∃ y_ : List Int, y_ = (x7_1 ++ [x8_2]) := ⟨_, rfl⟩; replace H : (compassref04_Order.l0 k2 y437 y438 a0_0 l0_1) = some (r1, r2) := by first | (rw [hy438]; exact H) | exact H
  have Ny438 := ak hy438; clear hy438; have H' := ak H; clear H; have p32 : 0 ≤ (x8_2 : Int) := oda; have q32 : (x8_2 : Int) < ((x6_1.length : Int) : Int) := oda
  obtain ⟨go32, co32, eo32, gb32, gl32, cl32, HG32⟩ := Kd.R_form HO_6.out (by omega)
  (first | cases eo32 | (injection eo32 with ea_ en_ ec_; (first | subst ea_ | (injection ea_ with ea_; subst ea_)); subst ec_; clear en_))
  have GB32 := ak gb32; have GG32 := ak HG32; clear gb32 gl32 HG32; obtain ⟨hx32_0, hf32_0⟩ := Kd.R_celln false HO_6.out (x8_2 : Int) p32 q32; replace p32 := eq_true p32; replace q32 := eq_true q32; have HP34 := Kd.R_putg HO_6.out (x8_2 : Int) true
  go_wp2_with (first | ((with_reducible refine gate_store (t := 4) (p := 49) rfl ?_); refine store_event (t := 4) (p := 49) (v := ?vo_w35) (w1 := (wr.setCell ⟨go32, (x8_2 : Int).toNat, none⟩ (.bool true))) ?hg ?ho ?hn ?hr ?_; (case ho => rfl); (case hg => rfl); (case hn => rfl); (case hr => first | (go_simp; done) | (go_simp; rfl)); intro w35 hw; have hg : wr.grownBy w35 (some go32) := (by rw [hw]; exact HP34.2); have hp_ : Kd.R Kd.bool 4 w35 w.heap.size (fun _ => True) (.slice (some ⟨go32, 0, none⟩) x6_1.length co32) y437 := (by rw [hw, Ny437.out]; exact HP34.1); clear HP34; have n_ := a4 hp_ (Kd.R_over' (v := (.slice (some ⟨go32, 0, none⟩) x6_1.length co32)) (rx HO_7.out) (Kd.R_typed HO_6.out) (by decide) hg) (blk_grown (bx BK429.out) hg (Kd.R_ne HO_6.out BK429.out (by decide))) (by rw [hw]; exact below_set (HB.out) GB32.out : Below w.heap.size w w35); clear HO_6 HO_7 BK429 HB; obtain ⟨HO_6, HO_7, BK429, HB⟩ := n_; clear hg hw hp_) | ((with_reducible refine gate_builtin (b := .append) (xs := #[.tmp 50, .tmp 52]) rfl ?_); at_builtin; refine Kd.R_append (Kd.int .i64) (w0 := w) w.heap.size rfl (.tmp 50) (.tmp 52) 70 3 (.int .i64 0) 8 rfl Try.underlying70 info3 rfl (by decide) (by omega) (.slice Ao13 x7_1.length co13) x7_1 x8_2 [.int .i64 x8_2] (fun _ => True) (fun _ => False) rfl rfl ?aP (fun _ hk => hk.elim) ?aF ?aO ?aB ?aS ?aL ?_; (case aP => exact rfl); (case aB => exact lb); (case aF => exact (fun _ _ => trivial)); (case aO => exact (rx HO_7.out)); (case aS => exact (below_size lb)); (case aL => have := LMc33.out; omega); intro v439 w36 ho hb hg hat; rw [← Ny438.out] at ho; have n_ := a4 (Kd.R_over' (rx HO_6.out) (Kd.R_typed (rx HO_7.out)) (by decide) hg) (blk_grown (bx BK429.out) hg (Kd.R_ne HO_7.out BK429.out (by decide))) hb ho; clear HO_6 BK429 HB HO_7; obtain ⟨HO_6, BK429, HB, HO440⟩ := n_; clear ho hb hg hat))
  go_roundg k2
  case measure => have := HK1.out; have := HK2.out; omega
  case rel => exact ⟨(y437), (y438), H', ⟨by have := HK1.out; have := HK2.out; omega⟩, ⟨rx HO_6.out⟩, ⟨rx HO440.out⟩, xb BK429, ⟨lb⟩⟩
 rw [if_pos c15] at H; have c15b0 := decide_eq_true c15; clear c15; replace H := if2 H; obtain ⟨c16b0, c17b0, H⟩ := H; obtain ⟨bq18, hbq18⟩ : ∃ b_ : Bool, b_ = (rdOf false x6_1 x9_2) := ⟨_, rfl⟩; replace H : (if bq18 = true then (compassref04_Order.l1 k2 x6_1 x7_1 x8_2 (wrap64 (x9_2 - 1)) a0_0 l0_1) else ((compassref04_may.f k2 a0_0 l0_1 x6_1 x9_2).bind fun t436 => (if t436 = true then (compassref04_Order.l1 k2 x6_1 x7_1 x9_2 (wrap64 (x9_2 - 1)) a0_0 l0_1) else (compassref04_Order.l1 k2 x6_1 x7_1 x8_2 (wrap64 (x9_2 - 1)) a0_0 l0_1)))) = some (r1, r2) := by rw [← hbq18] at H; exact H
 have Nbq18 := ak hbq18; clear hbq18
 by_cases c19 : bq18 = true
 ·
  subst c19
  replace H := ip H; have H' := ak H; clear H; obtain ⟨Ao20, co20, eo20⟩ := Kd.R_slice HO_6.out; subst eo20; obtain ⟨p435, q435, ad435, e435, hx435_0⟩ := wq (Kd.at_bool (Kd.R_reads' HO_6.out).2.2 x9_2)
  (try rw [← Nbq18.out] at hx435_0)
  cases e435
  go_wp2
  go_roundg k2
  case measure => have := HK1.out; have := HK2.out; omega
  case rel => exact ⟨(x8_2), (wrap64 (x9_2 - 1)), sr, sr, H', ⟨by have := HK1.out; have := HK2.out; omega⟩, ⟨rx HO_6.out⟩, ⟨rx HO_7.out⟩, xb BK429, ⟨lb⟩⟩
 replace c19 := Bool.eq_false_iff.mpr c19; subst c19
 have H1 : ((compassref04_may.f k2 a0_0 l0_1 x6_1 x9_2).bind fun t436 => (if t436 = true then (compassref04_Order.l1 k2 x6_1 x7_1 x9_2 (wrap64 (x9_2 - 1)) a0_0 l0_1) else (compassref04_Order.l1 k2 x6_1 x7_1 x8_2 (wrap64 (x9_2 - 1)) a0_0 l0_1))) = some (r1, r2) := by rw [if_neg (show ¬ (false = true) by decide)] at H; exact H
 clear H; have H := H1; clear H1; replace H := Option.bind_eq_some_iff.mp H; obtain ⟨t436, A210, H⟩ := H; have A21 := ak A210; clear A210
 by_cases c22 : t436 = true
 ·
  subst c22
  replace H := ip H; have H' := ak H; clear H; obtain ⟨Ao23, co23, eo23⟩ := Kd.R_slice HO_6.out; subst eo23; obtain ⟨p435, q435, ad435, e435, hx435_0⟩ := wq (Kd.at_bool (Kd.R_reads' HO_6.out).2.2 x9_2)
  (try rw [← Nbq18.out] at hx435_0)
  cases e435; have ⟨_, _, _, _⟩ := cf2 BK429
  go_wp2_with (first | (go_at_call 81; (with_reducible refine (compassref04_may.calls k2 a0_0 _ _ l0_1 _ _ x6_1 x9_2 true _ ?side1 ?side2 ?side3 ?side4 A21.out).mono ?_); (case side1 => exact Kd.C_below HR0_1.out lb); (case side2 => exact HC0_1.out); (case side3 => repeat (first | exact (Kd.R_reads' HO_6.out).2.2 | (with_reducible refine Kd.C_alloc ?_ _) | (with_reducible refine Kd.C_drewN ?_ _) | (with_reducible refine Kd.C_drew ?_))); (case side4 => exact (Kd.R_reads' HO_6.out).2.1); rintro e w25 ⟨rfl, hb⟩; have n_ := a4 (ro HO_6 hb) (ro HO_7 hb) (bo BK429 hb) (bl hb); clear HO_6 HO_7 BK429 HB; obtain ⟨HO_6, HO_7, BK429, HB⟩ := n_; clear hb))
  go_roundg k2
  case measure => have := HK1.out; have := HK2.out; omega
  case rel => exact ⟨(x9_2), (wrap64 (x9_2 - 1)), sr, sr, H', ⟨by have := HK1.out; have := HK2.out; omega⟩, ⟨rx HO_6.out⟩, ⟨rx HO_7.out⟩, xb BK429, ⟨lb⟩⟩
 replace c22 := Bool.eq_false_iff.mpr c22; subst c22
 have H1 : (compassref04_Order.l1 k2 x6_1 x7_1 x8_2 (wrap64 (x9_2 - 1)) a0_0 l0_1) = some (r1, r2) := by rw [if_neg (show ¬ (false = true) by decide)] at H; exact H
 clear H; have H := H1; clear H1; have H' := ak H; clear H; obtain ⟨Ao26, co26, eo26⟩ := Kd.R_slice HO_6.out; subst eo26; obtain ⟨p435, q435, ad435, e435, hx435_0⟩ := wq (Kd.at_bool (Kd.R_reads' HO_6.out).2.2 x9_2)
 (try rw [← Nbq18.out] at hx435_0)
 cases e435; have ⟨_, _, _, _⟩ := cf2 BK429
 go_wp2_with (first | (go_at_call 81; (with_reducible refine (compassref04_may.calls k2 a0_0 _ _ l0_1 _ _ x6_1 x9_2 false _ ?side1 ?side2 ?side3 ?side4 A21.out).mono ?_); (case side1 => exact Kd.C_below HR0_1.out lb); (case side2 => exact HC0_1.out); (case side3 => repeat (first | exact (Kd.R_reads' HO_6.out).2.2 | (with_reducible refine Kd.C_alloc ?_ _) | (with_reducible refine Kd.C_drewN ?_ _) | (with_reducible refine Kd.C_drew ?_))); (case side4 => exact (Kd.R_reads' HO_6.out).2.1); rintro e w28 ⟨rfl, hb⟩; have n_ := a4 (ro HO_6 hb) (ro HO_7 hb) (bo BK429 hb) (bl hb); clear HO_6 HO_7 BK429 HB; obtain ⟨HO_6, HO_7, BK429, HB⟩ := n_; clear hb))
 go_roundg k2
 case measure => have := HK1.out; have := HK2.out; omega
 case rel => exact ⟨(x8_2), (wrap64 (x9_2 - 1)), sr, sr, H', ⟨by have := HK1.out; have := HK2.out; omega⟩, ⟨rx HO_6.out⟩, ⟨rx HO_7.out⟩, xb BK429, ⟨lb⟩⟩
end Go.Proofs.Ytkdoihcjhccliaa.Q
