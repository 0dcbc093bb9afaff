import Derived.Test.YtkdoihcjhccliaaV3
import Derived.Test.YtkdoihcjhccliaaK4
import Derived.Test.YtkdoihcjhccliaaQ0
import Derived.Test.YtkdoihcjhccliaaQ3
namespace Go.Proofs.Ytkdoihcjhccliaa.Q
open Go.RowKit Go.Proofs.YtkdoihcjhccliaaW.PrintWords Go.Proofs.YtkdoihcjhccliaaW.PrintLast Go.Proofs.YtkdoihcjhccliaaW.PrintMore
attribute [local go_sem] max2_int min2_int max_two min_two max_three min_three max_four min_four   -- for this text's walks alone
set_option linter.unusedVariables false
set_option linter.unusedSimpArgs false

/-! ### compassref11_reach: function 57 -/
mutual
def compassref11_reach.l0 : Nat → Int → List Int → Int → Int → List (S98) → Option (List Int)
  | 0, _, _, _, _, _ => none
  | k + 1, x1, x5, x6, x342000, x342001 => if x6 < x342000 then (if 0 ≤ x6 then (if x6 < (x5.length : Int) then (compassref11_reach.l0 k x1 (x5.set (x6 : Int).toNat (-2)) (wrap64 (x6 + 1)) x342000 x342001) else (none)) else (none)) else (if 0 ≤ x1 then (if x1 < (x5.length : Int) then (compassref11_reach.l1 k (x5.set (x1 : Int).toNat (-1)) 0 x342000 x342001) else (none)) else (none))
def compassref11_reach.l1 : Nat → List Int → Int → Int → List (S98) → Option (List Int)
  | 0, _, _, _, _ => none
  | k + 1, x5, x7, x342000, x342001 => if x7 < x342000 then (compassref11_reach.l2 k x5 x7 0 x342000 x342001) else (some x5)
def compassref11_reach.l2 : Nat → List Int → Int → Int → Int → List (S98) → Option (List Int)
  | 0, _, _, _, _, _ => none
  | k + 1, x5, x7, x8, x342000, x342001 => if x8 < (x342001.length : Int) then (if 0 ≤ x8 then (if ((rd_T98 x342001 x8).f2) > 0 then (if 0 ≤ ((rd_T98 x342001 x8).f0) then (if ((rd_T98 x342001 x8).f0) < (x5.length : Int) then (if (rd x5 ((rd_T98 x342001 x8).f0)) ≥ (-1) then (if 0 ≤ ((rd_T98 x342001 x8).f1) then (if ((rd_T98 x342001 x8).f1) < (x5.length : Int) then (if (rd x5 ((rd_T98 x342001 x8).f1)) = (-2) then (compassref11_reach.l2 k (x5.set (((rd_T98 x342001 x8).f1) : Int).toNat x8) x7 (wrap64 (x8 + 1)) x342000 x342001) else (compassref11_reach.l2 k x5 x7 (wrap64 (x8 + 1)) x342000 x342001)) else (none)) else (none)) else (compassref11_reach.l2 k x5 x7 (wrap64 (x8 + 1)) x342000 x342001)) else (none)) else (none)) else (compassref11_reach.l2 k x5 x7 (wrap64 (x8 + 1)) x342000 x342001)) else (none)) else (compassref11_reach.l1 k x5 (wrap64 (x7 + 1)) x342000 x342001)
end
def compassref11_reach.f (k : Nat) (a0_0 : Int) (l0_1 : List (S98)) (a1 : Int) : Option (List Int) := if 0 ≤ a0_0 then (if (a0_0 : Int).toNat ≤ 35184372088832 then (compassref11_reach.l0 k a1 (List.replicate (a0_0 : Int).toNat 0) 0 a0_0 l0_1) else (none)) else (none)
set_option maxHeartbeats 8000000 in
set_option maxRecDepth 100000 in
theorem compassref11_reach.calls (k : Nat) (a0_0 : Int) (A0_1 : Option Addr) (c0_1 : Nat) (l0_1 : List (S98)) (a1 : Int) (r : List Int) (w : World) (hr0_1 : Kd.C k98 w A0_1 l0_1.length l0_1) (hc0_1 : l0_1.length ≤ c0_1) (h : compassref11_reach.f k a0_0 l0_1 a1 = some r) :
    Calls Try.prog 57 #[.agg #[.int .i64 a0_0, .slice A0_1 l0_1.length c0_1], .int .i64 a1] w fun e w' => ∃ v0_ : Value, e = .returned (v0_) ∧ Kd.R (Kd.int .i64) 3 w' w.heap.size (fun _ => True) v0_ r ∧ Below w.heap.size w w' := by
 have hu24 := Try.underlying24; have hu98 := Try.underlying98; have HR0_1 := ak hr0_1; have HC0_1 := ak hc0_1; clear hr0_1 hc0_1; have HB := ak (Below.refl w.heap.size w); have H : (if 0 ≤ a0_0 then (if (a0_0 : Int).toNat ≤ 35184372088832 then (compassref11_reach.l0 k a1 (List.replicate (a0_0 : Int).toNat 0) 0 a0_0 l0_1) else (none)) else (none)) = some r := h; clear h; replace H := ife H; obtain ⟨c3b0, c3b1, H⟩ := H; replace H := ife H; obtain ⟨c4b0, c4b1, H⟩ := H; obtain ⟨y342, hy342⟩ : ∃ y_ : List Int, y_ = (List.replicate (a0_0 : Int).toNat 0) := ⟨_, rfl⟩; replace H : (compassref11_reach.l0 k a1 y342 0 a0_0 l0_1) = some r := by first | (rw [hy342]; exact H) | exact H
 have Ny342 := ak hy342; clear hy342; have H' := ak H; clear H
 go_enter Try.func57, Try.ntmps57
 go_wp2_with (first | ((with_reducible refine gate_dst (N := 2) rfl ?_); refine bxe 2 #[.int .i64 a0_0, .slice A0_1 l0_1.length c0_1] 24 ?_; intro gb341 hg w5 hbox hb; have n_ := a4 (bl hb) hbox (gw w hg) (gw w hg); clear HB; obtain ⟨HB, BK341, GW341, GE341⟩ := n_; clear hb hbox hg; have ⟨_, _, _, _⟩ := cf2 BK341) | ((with_reducible refine gate_dst (N := 12) rfl ?_); refine Kd.R_make (Kd.int .i64) _ 3 rfl (N := 12) rfl 70 _ _ rfl a0_0 rfl rfl Try.underlying70 (.int .i64 0) 8 info3 rfl (by decide) (by omega) 0 (ok := fun _ => True) (okp := fun _ => True) rfl (fun _ hk => hk) trivial (oda) (Nat.le_trans (Nat.mul_le_mul_right _ (oda : a0_0.toNat ≤ 35184372088832)) (by omega)) (Below.refl _ _) (Nat.le_refl _) ?_; intro v343 w7 ho8 hb hg_ hnew_; clear hg_ hnew_; (first | rw [← Ny342.out] at ho8 | (simp only [Int.reduceToNat] at ho8; rw [← Ny342.out] at ho8)); have n_ := a3 (Kd.R_lower ho8 (below_size lb)) (bo BK341 hb) (bl hb); clear BK341 HB; obtain ⟨HO344, BK341, HB⟩ := n_; clear hb ho8))
 go_loopg [6] k (fun kq v6 w' => ∃ (x5_1 : List Int) (x6_1 : Int), v6 = .int .i64 x6_1 ∧ Aside0 (compassref11_reach.l0 kq a1 x5_1 x6_1 a0_0 l0_1 = some r) ∧ Aside0 (kq ≤ k) ∧ Aside0 (Kd.R (Kd.int .i64) 3 w' w.heap.size (fun _ => True) v343 x5_1) ∧ Aside0 (w'.heap[gb341]? = some (.cells #[.int .i64 a0_0, (.slice A0_1 l0_1.length c0_1)] 24 (0, 0))) ∧ Aside0 (Below w.heap.size w w'))
 case atStart => exact ⟨(y342), (0), sr, H', ⟨Nat.le_refl _⟩, ⟨rx HO344.out⟩, xb BK341, ⟨lb⟩⟩
 clear H'; obtain ⟨x5_1, x6_1, rfl, HA, HK1, HO_5, BK341, HB⟩ := hrel
 cases gk with
 | zero => exact absurd HA.out (by simp [compassref11_reach.l0])
 | succ k1 => ?_
 have H := HA.out; clear HA
 simp only [compassref11_reach.l0] at H
 by_cases c9 : x6_1 < a0_0
 ·
  rw [if_pos c9] at H; have c9b0 := decide_eq_true c9; clear c9; replace H := if2 H; obtain ⟨c10b0, c11b0, H⟩ := H; obtain ⟨y345, hy345⟩ : ∃ y_ : List Int, y_ = (x5_1.set (x6_1 : Int).toNat (-2)) := ⟨_, rfl⟩; replace H : (compassref11_reach.l0 k1 a1 y345 (wrap64 (x6_1 + 1)) a0_0 l0_1) = some r := by first | (rw [hy345]; exact H) | exact H
  have Ny345 := ak hy345; clear hy345; have H' := ak H; clear H; have ⟨_, _, _, _⟩ := cf2 BK341; have p12 : 0 ≤ (x6_1 : Int) := oda; have q12 : (x6_1 : Int) < ((x5_1.length : Int) : Int) := oda
  obtain ⟨go12, co12, eo12, gb12, gl12, cl12, HG12⟩ := Kd.R_form HO_5.out (by omega)
  (first | cases eo12 | (injection eo12 with ea_ en_ ec_; (first | subst ea_ | (injection ea_ with ea_; subst ea_)); subst ec_; clear en_))
  have GB12 := ak gb12; have GG12 := ak HG12; clear gb12 gl12 HG12; obtain ⟨hx12_0, hf12_0⟩ := Kd.R_celln 0 HO_5.out (x6_1 : Int) p12 q12; replace p12 := eq_true p12; replace q12 := eq_true q12; have HP14 := Kd.R_putg HO_5.out (x6_1 : Int) (-2)
  go_wp2_with (first | ((with_reducible refine gate_store (t := 3) (p := 21) rfl ?_); refine store_event (t := 3) (p := 21) (v := ?vo_w15) (w1 := (wr.setCell ⟨go12, (x6_1 : Int).toNat, none⟩ (.int .i64 (-2)))) ?hg ?ho ?hn ?hr ?_; (case ho => rfl); (case hg => rfl); (case hn => rfl); (case hr => first | (go_simp; done) | (go_simp; rfl)); intro w15 hw; have hg : wr.grownBy w15 (some go12) := (by rw [hw]; exact HP14.2); have hp_ : Kd.R (Kd.int .i64) 3 w15 w.heap.size (fun _ => True) (.slice (some ⟨go12, 0, none⟩) x5_1.length co12) y345 := (by rw [hw, Ny345.out]; exact HP14.1); clear HP14; have n_ := a3 hp_ (blk_grown (bx BK341.out) hg (Kd.R_ne HO_5.out BK341.out (by decide))) (by rw [hw]; exact below_set (HB.out) GB12.out : Below w.heap.size w w15); clear HO_5 BK341 HB; obtain ⟨HO_5, BK341, HB⟩ := n_; clear hg hw hp_))
  go_roundg k1
  case measure => have := HK1.out; omega
  case rel => exact ⟨(y345), (wrap64 (x6_1 + 1)), sr, H', ⟨by have := HK1.out; omega⟩, ⟨rx HO_5.out⟩, xb BK341, ⟨lb⟩⟩
 rw [if_neg c9] at H; have c9b0 := decide_eq_false c9; clear c9; replace H := if2 H; obtain ⟨c16b0, c17b0, H⟩ := H; obtain ⟨y346, hy346⟩ : ∃ y_ : List Int, y_ = (x5_1.set (a1 : Int).toNat (-1)) := ⟨_, rfl⟩; replace H : (compassref11_reach.l1 k1 y346 0 a0_0 l0_1) = some r := by first | (rw [hy346]; exact H) | exact H
 have Ny346 := ak hy346; clear hy346; have H' := ak H; clear H; have ⟨_, _, _, _⟩ := cf2 BK341; have p18 : 0 ≤ (a1 : Int) := oda; have q18 : (a1 : Int) < ((x5_1.length : Int) : Int) := oda
 obtain ⟨go18, co18, eo18, gb18, gl18, cl18, HG18⟩ := Kd.R_form HO_5.out (by omega)
 (first | cases eo18 | (injection eo18 with ea_ en_ ec_; (first | subst ea_ | (injection ea_ with ea_; subst ea_)); subst ec_; clear en_))
 have GB18 := ak gb18; have GG18 := ak HG18; clear gb18 gl18 HG18; obtain ⟨hx18_0, hf18_0⟩ := Kd.R_celln 0 HO_5.out (a1 : Int) p18 q18; replace p18 := eq_true p18; replace q18 := eq_true q18; have HP20 := Kd.R_putg HO_5.out (a1 : Int) (-1)
 go_wp2_with (first | ((with_reducible refine gate_store (t := 3) (p := 24) rfl ?_); refine store_event (t := 3) (p := 24) (v := ?vo_w21) (w1 := (wr.setCell ⟨go18, (a1 : Int).toNat, none⟩ (.int .i64 (-1)))) ?hg ?ho ?hn ?hr ?_; (case ho => rfl); (case hg => rfl); (case hn => rfl); (case hr => first | (go_simp; done) | (go_simp; rfl)); intro w21 hw; have hg : wr.grownBy w21 (some go18) := (by rw [hw]; exact HP20.2); have hp_ : Kd.R (Kd.int .i64) 3 w21 w.heap.size (fun _ => True) (.slice (some ⟨go18, 0, none⟩) x5_1.length co18) y346 := (by rw [hw, Ny346.out]; exact HP20.1); clear HP20; have n_ := a3 hp_ (blk_grown (bx BK341.out) hg (Kd.R_ne HO_5.out BK341.out (by decide))) (by rw [hw]; exact below_set (HB.out) GB18.out : Below w.heap.size w w21); clear HO_5 BK341 HB; obtain ⟨HO_5, BK341, HB⟩ := n_; clear hg hw hp_))
 go_loopg [7] k1 (fun kq v7 w' => ∃ (x5_2 : List Int) (x7_2 : Int), v7 = .int .i64 x7_2 ∧ Aside0 (compassref11_reach.l1 kq x5_2 x7_2 a0_0 l0_1 = some r) ∧ Aside0 (kq ≤ k1) ∧ Aside0 (Kd.R (Kd.int .i64) 3 w' w.heap.size (fun _ => True) (.slice (some ⟨go18, 0, none⟩) x5_1.length co18) x5_2) ∧ Aside0 (w'.heap[gb341]? = some (.cells #[.int .i64 a0_0, (.slice A0_1 l0_1.length c0_1)] 24 (0, 0))) ∧ Aside0 (Below w.heap.size w w'))
 case atStart => exact ⟨(y346), (0), sr, H', ⟨Nat.le_refl _⟩, ⟨rx HO_5.out⟩, xb BK341, ⟨lb⟩⟩
 clear H'; obtain ⟨x5_2, x7_2, rfl, HA, HK2, HO_5, BK341, HB⟩ := hrel; have hl5_2 := (Kd.R_reads' HO_5.out).1; rw [hl5_2] at HO_5
 (try simp only [hl5_2])
 (try simp only [hl5_2] at BK341)
 cases gk with
 | zero => exact absurd HA.out (by simp [compassref11_reach.l1])
 | succ k2 => ?_
 have H := HA.out; clear HA
 simp only [compassref11_reach.l1] at H
 by_cases c22 : x7_2 < a0_0
 rotate_left
 ·
  rw [if_neg c22] at H; have c22b0 := decide_eq_false c22; clear c22; obtain rfl := Option.some.inj H; have ⟨_, _, _, _⟩ := cf2 BK341
  go_wp2
  go_ret
  exact ⟨_, by first | rfl | (simp [errW_none, errW_some] <;> rfl) | (simp [*, errW_none, errW_some] <;> rfl), by exact rx HO_5.out, lb⟩
 rw [if_pos c22] at H; have c22b0 := decide_eq_true c22; clear c22; have H' := ak H; clear H; have ⟨_, _, _, _⟩ := cf2 BK341
 go_wp2
 go_loopg [8] k2 (fun kq v8 w' => ∃ (x5_3 : List Int) (x8_3 : Int), v8 = .int .i64 x8_3 ∧ Aside0 (compassref11_reach.l2 kq x5_3 x7_2 x8_3 a0_0 l0_1 = some r) ∧ Aside0 (kq ≤ k2) ∧ Aside0 (Kd.R (Kd.int .i64) 3 w' w.heap.size (fun _ => True) (.slice (some ⟨go18, 0, none⟩) x5_2.length co18) x5_3) ∧ Aside0 (w'.heap[gb341]? = some (.cells #[.int .i64 a0_0, (.slice A0_1 l0_1.length c0_1)] 24 (0, 0))) ∧ Aside0 (Below w.heap.size w w'))
 case atStart => exact ⟨(x5_2), (0), sr, H', ⟨Nat.le_refl _⟩, ⟨by (try simp only [hl5_2]); exact rx HO_5.out⟩, ⟨by (try simp only [hl5_2]); exact bx BK341.out⟩, ⟨lb⟩⟩
 clear H'; obtain ⟨x5_3, x8_3, rfl, HA, HK3, HO_5, BK341, HB⟩ := hrel; have hl5_3 := (Kd.R_reads' HO_5.out).1; rw [hl5_3] at HO_5
 (try simp only [hl5_3])
 (try simp only [hl5_3] at BK341)
 cases gk with
 | zero => exact absurd HA.out (by simp [compassref11_reach.l2])
 | succ k3 => ?_
 have H := HA.out; clear HA
 simp only [compassref11_reach.l2] at H
 by_cases c24 : x8_3 < (l0_1.length : Int)
 rotate_left
 ·
  rw [if_neg c24] at H; have c24b0 := decide_eq_false c24; clear c24; have H' := ak H; clear H; have ⟨_, _, _, _⟩ := cf2 BK341
  go_wp2
  (try simp only [← hl5_2, ← hl5_3])
  go_roundg k3
  case measure => have := HK1.out; have := HK2.out; have := HK3.out; omega
  case rel => exact ⟨(x5_3), (wrap64 (x7_2 + 1)), sr, H', ⟨by have := HK1.out; have := HK2.out; have := HK3.out; omega⟩, ⟨by (try simp only [hl5_2]); (try simp only [hl5_3]); exact rx HO_5.out⟩, ⟨by (try simp only [hl5_2]); (try simp only [hl5_3]); exact bx BK341.out⟩, ⟨lb⟩⟩
 rw [if_pos c24] at H; have c24b0 := decide_eq_true c24; clear c24; replace H := ifd H; obtain ⟨c25b0, H⟩ := H
 by_cases c26 : ((rd_T98 l0_1 x8_3).f2) > 0
 rotate_left
 ·
  rw [if_neg c26] at H; have c26b0 := decide_eq_false c26; clear c26; have H' := ak H; clear H; have ⟨_, _, _, _⟩ := cf2 BK341; obtain ⟨p347, q347, ad347, e347, hx347_0, hx347_1, hx347_2, hx347_3⟩ := wq (at_T98 HR0_1.out x8_3); cases e347
  (try replace hx347_0 := hbc HB hx347_0)
  (try replace hx347_1 := hbc HB hx347_1)
  (try replace hx347_2 := hbc HB hx347_2)
  (try replace hx347_3 := hbc HB hx347_3)
  go_wp2_with (first | ((with_reducible refine gate_dst (N := 9) rfl ?_); refine bxe 9 #[.int .i64 0, .int .i64 0, .int .i64 0, .int .i64 0] 98 ?_; intro gb348 hg w51 hbox hb; have n_ := a8 (ro HO_5 hb) (bo BK341 hb) (bl hb) hbox (gw w hg) (gw w hg) (nl hg BK341) (nr hg BK341); clear HO_5 BK341 HB; obtain ⟨HO_5, BK341, HB, BK348, GW348, GE348, NB341_348, NB348_341⟩ := n_; clear hb hbox hg; have ⟨_, _⟩ := nn NB348_341; have ⟨_, _, _, _, _, _, _, _⟩ := cf4 BK348))
  (try simp only [← hl5_3])
  go_roundg k3
  case measure => have := HK1.out; have := HK2.out; have := HK3.out; omega
  case rel => exact ⟨(x5_3), (wrap64 (x8_3 + 1)), sr, H', ⟨by have := HK1.out; have := HK2.out; have := HK3.out; omega⟩, ⟨by (try simp only [hl5_2]); (try simp only [hl5_3]); exact rx (Kd.R_mono (Kd.R_far (p := ⟨gb348, 3, none⟩) (Kd.R_far (p := ⟨gb348, 2, none⟩) (Kd.R_far (p := ⟨gb348, 1, none⟩) (Kd.R_far (p := ⟨gb348, 0, none⟩) (Kd.R_types HO_5.out BK348.out (by decide)) (fun _ hk => hk.2) (.int .i64 ((rd_T98 l0_1 x8_3).f0))) (fun _ hk => hk.2) (.int .i64 ((rd_T98 l0_1 x8_3).f1))) (fun _ hk => hk.2) (.int .i64 ((rd_T98 l0_1 x8_3).f2))) (fun _ hk => hk.2) (.int .i64 ((rd_T98 l0_1 x8_3).f3))) (fun _ hk => trivial))⟩, ⟨by (try simp only [hl5_2]); (try simp only [hl5_3]); (with_reducible repeat (first | refine blk_drewN ?_ _ | refine blk_drew ?_ | refine blk_alloc ?_ _)); refine blk_far ?_ NB341_348.out _; (with_reducible repeat (first | refine blk_drewN ?_ _ | refine blk_drew ?_ | refine blk_alloc ?_ _)); refine blk_far ?_ NB341_348.out _; (with_reducible repeat (first | refine blk_drewN ?_ _ | refine blk_drew ?_ | refine blk_alloc ?_ _)); refine blk_far ?_ NB341_348.out _; (with_reducible repeat (first | refine blk_drewN ?_ _ | refine blk_drew ?_ | refine blk_alloc ?_ _)); refine blk_far ?_ NB341_348.out _; exact bx BK341.out⟩, ⟨lb⟩⟩
 rw [if_pos c26] at H; have c26b0 := decide_eq_true c26; clear c26; replace H := if2 H; obtain ⟨c27b0, c28b0, H⟩ := H
 by_cases c29 : (rd x5_3 ((rd_T98 l0_1 x8_3).f0)) ≥ (-1)
 rotate_left
 ·
  rw [if_neg c29] at H; have c29b0 := decide_eq_false c29; clear c29; have H' := ak H; clear H; have ⟨_, _, _, _⟩ := cf2 BK341; obtain ⟨p347, q347, ad347, e347, hx347_0, hx347_1, hx347_2, hx347_3⟩ := wq (at_T98 HR0_1.out x8_3); cases e347
  (try replace hx347_0 := hbc HB hx347_0)
  (try replace hx347_1 := hbc HB hx347_1)
  (try replace hx347_2 := hbc HB hx347_2)
  (try replace hx347_3 := hbc HB hx347_3)
  go_wp2_with (first | ((with_reducible refine gate_dst (N := 9) rfl ?_); refine bxe 9 #[.int .i64 0, .int .i64 0, .int .i64 0, .int .i64 0] 98 ?_; intro gb348 hg w47 hbox hb; have n_ := a8 (ro HO_5 hb) (bo BK341 hb) (bl hb) hbox (gw w hg) (gw w hg) (nl hg BK341) (nr hg BK341); clear HO_5 BK341 HB; obtain ⟨HO_5, BK341, HB, BK348, GW348, GE348, NB341_348, NB348_341⟩ := n_; clear hb hbox hg; have ⟨_, _⟩ := nn NB348_341; have ⟨_, _, _, _, _, _, _, _⟩ := cf4 BK348; obtain ⟨p349, q349, ad349, e349, hx349_0⟩ := wq (Kd.at_int (Kd.R_reads' HO_5.out).2.2 ((rd_T98 l0_1 x8_3).f0)); obtain rfl : (⟨go18, 0, none⟩ : Addr) = ad349 := (by injection e349); (first | simp only [add_plain] at hx349_0 | simp only [add_at] at hx349_0 | simp only [Addr.add, Nat.zero_add] at hx349_0 | skip); have hn349_0 : (⟨go18, 0, none⟩ : Addr).block ≠ gb348 := Kd.own_blk (Kd.R_ne HO_5.out BK348.out (by decide)); have hn349_1 : (⟨go18, 0, none⟩ : Addr).block ≠ gb348 := Kd.own_blk (Kd.R_ne HO_5.out BK348.out (by decide)); have hn349_2 : (⟨go18, 0, none⟩ : Addr).block ≠ gb348 := Kd.own_blk (Kd.R_ne HO_5.out BK348.out (by decide)); have hn349_3 : (⟨go18, 0, none⟩ : Addr).block ≠ gb348 := Kd.own_blk (Kd.R_ne HO_5.out BK348.out (by decide)); replace hx349_0 := cg4 gb348 (.int .i64 ((rd_T98 l0_1 x8_3).f0)) (.int .i64 ((rd_T98 l0_1 x8_3).f1)) (.int .i64 ((rd_T98 l0_1 x8_3).f2)) (.int .i64 ((rd_T98 l0_1 x8_3).f3)) hx349_0 hn349_0; clear hn349_0))
  (try simp only [← hl5_3])
  go_roundg k3
  case measure => have := HK1.out; have := HK2.out; have := HK3.out; omega
  case rel => exact ⟨(x5_3), (wrap64 (x8_3 + 1)), sr, H', ⟨by have := HK1.out; have := HK2.out; have := HK3.out; omega⟩, ⟨by (try simp only [hl5_2]); (try simp only [hl5_3]); exact rx (Kd.R_mono (Kd.R_far (p := ⟨gb348, 3, none⟩) (Kd.R_far (p := ⟨gb348, 2, none⟩) (Kd.R_far (p := ⟨gb348, 1, none⟩) (Kd.R_far (p := ⟨gb348, 0, none⟩) (Kd.R_types HO_5.out BK348.out (by decide)) (fun _ hk => hk.2) (.int .i64 ((rd_T98 l0_1 x8_3).f0))) (fun _ hk => hk.2) (.int .i64 ((rd_T98 l0_1 x8_3).f1))) (fun _ hk => hk.2) (.int .i64 ((rd_T98 l0_1 x8_3).f2))) (fun _ hk => hk.2) (.int .i64 ((rd_T98 l0_1 x8_3).f3))) (fun _ hk => trivial))⟩, ⟨by (try simp only [hl5_2]); (try simp only [hl5_3]); (with_reducible repeat (first | refine blk_drewN ?_ _ | refine blk_drew ?_ | refine blk_alloc ?_ _)); refine blk_far ?_ NB341_348.out _; (with_reducible repeat (first | refine blk_drewN ?_ _ | refine blk_drew ?_ | refine blk_alloc ?_ _)); refine blk_far ?_ NB341_348.out _; (with_reducible repeat (first | refine blk_drewN ?_ _ | refine blk_drew ?_ | refine blk_alloc ?_ _)); refine blk_far ?_ NB341_348.out _; (with_reducible repeat (first | refine blk_drewN ?_ _ | refine blk_drew ?_ | refine blk_alloc ?_ _)); refine blk_far ?_ NB341_348.out _; exact bx BK341.out⟩, ⟨lb⟩⟩
 rw [if_pos c29] at H; have c29b0 := decide_eq_true c29; clear c29; replace H := if2 H; obtain ⟨c30b0, c31b0, H⟩ := H
 by_cases c32 : (rd x5_3 ((rd_T98 l0_1 x8_3).f1)) = (-2)
 rotate_left
 ·
  rw [if_neg c32] at H; have c32b := bn2 c32; have H' := ak H; clear H; have ⟨_, _, _, _⟩ := cf2 BK341; obtain ⟨p347, q347, ad347, e347, hx347_0, hx347_1, hx347_2, hx347_3⟩ := wq (at_T98 HR0_1.out x8_3); cases e347
  (try replace hx347_0 := hbc HB hx347_0)
  (try replace hx347_1 := hbc HB hx347_1)
  (try replace hx347_2 := hbc HB hx347_2)
  (try replace hx347_3 := hbc HB hx347_3)
  go_wp2_with (first | ((with_reducible refine gate_dst (N := 9) rfl ?_); refine bxe 9 #[.int .i64 0, .int .i64 0, .int .i64 0, .int .i64 0] 98 ?_; intro gb348 hg w43 hbox hb; have n_ := a8 (ro HO_5 hb) (bo BK341 hb) (bl hb) hbox (gw w hg) (gw w hg) (nl hg BK341) (nr hg BK341); clear HO_5 BK341 HB; obtain ⟨HO_5, BK341, HB, BK348, GW348, GE348, NB341_348, NB348_341⟩ := n_; clear hb hbox hg; have ⟨_, _⟩ := nn NB348_341; have ⟨_, _, _, _, _, _, _, _⟩ := cf4 BK348; obtain ⟨p349, q349, ad349, e349, hx349_0⟩ := wq (Kd.at_int (Kd.R_reads' HO_5.out).2.2 ((rd_T98 l0_1 x8_3).f0)); obtain rfl : (⟨go18, 0, none⟩ : Addr) = ad349 := (by injection e349); (first | simp only [add_plain] at hx349_0 | simp only [add_at] at hx349_0 | simp only [Addr.add, Nat.zero_add] at hx349_0 | skip); have hn349_0 : (⟨go18, 0, none⟩ : Addr).block ≠ gb348 := Kd.own_blk (Kd.R_ne HO_5.out BK348.out (by decide)); have hn349_1 : (⟨go18, 0, none⟩ : Addr).block ≠ gb348 := Kd.own_blk (Kd.R_ne HO_5.out BK348.out (by decide)); have hn349_2 : (⟨go18, 0, none⟩ : Addr).block ≠ gb348 := Kd.own_blk (Kd.R_ne HO_5.out BK348.out (by decide)); have hn349_3 : (⟨go18, 0, none⟩ : Addr).block ≠ gb348 := Kd.own_blk (Kd.R_ne HO_5.out BK348.out (by decide)); replace hx349_0 := cg4 gb348 (.int .i64 ((rd_T98 l0_1 x8_3).f0)) (.int .i64 ((rd_T98 l0_1 x8_3).f1)) (.int .i64 ((rd_T98 l0_1 x8_3).f2)) (.int .i64 ((rd_T98 l0_1 x8_3).f3)) hx349_0 hn349_0; clear hn349_0; obtain ⟨p350, q350, ad350, e350, hx350_0⟩ := wq (Kd.at_int (Kd.R_reads' HO_5.out).2.2 ((rd_T98 l0_1 x8_3).f1)); obtain rfl : (⟨go18, 0, none⟩ : Addr) = ad350 := (by injection e350); (first | simp only [add_plain] at hx350_0 | simp only [add_at] at hx350_0 | simp only [Addr.add, Nat.zero_add] at hx350_0 | skip); have hn350_0 : (⟨go18, 0, none⟩ : Addr).block ≠ gb348 := Kd.own_blk (Kd.R_ne HO_5.out BK348.out (by decide)); have hn350_1 : (⟨go18, 0, none⟩ : Addr).block ≠ gb348 := Kd.own_blk (Kd.R_ne HO_5.out BK348.out (by decide)); have hn350_2 : (⟨go18, 0, none⟩ : Addr).block ≠ gb348 := Kd.own_blk (Kd.R_ne HO_5.out BK348.out (by decide)); have hn350_3 : (⟨go18, 0, none⟩ : Addr).block ≠ gb348 := Kd.own_blk (Kd.R_ne HO_5.out BK348.out (by decide)); replace hx350_0 := cg4 gb348 (.int .i64 ((rd_T98 l0_1 x8_3).f0)) (.int .i64 ((rd_T98 l0_1 x8_3).f1)) (.int .i64 ((rd_T98 l0_1 x8_3).f2)) (.int .i64 ((rd_T98 l0_1 x8_3).f3)) hx350_0 hn350_0; clear hn350_0))
  (try simp only [← hl5_3])
  go_roundg k3
  case measure => have := HK1.out; have := HK2.out; have := HK3.out; omega
  case rel => exact ⟨(x5_3), (wrap64 (x8_3 + 1)), sr, H', ⟨by have := HK1.out; have := HK2.out; have := HK3.out; omega⟩, ⟨by (try simp only [hl5_2]); (try simp only [hl5_3]); exact rx (Kd.R_mono (Kd.R_far (p := ⟨gb348, 3, none⟩) (Kd.R_far (p := ⟨gb348, 2, none⟩) (Kd.R_far (p := ⟨gb348, 1, none⟩) (Kd.R_far (p := ⟨gb348, 0, none⟩) (Kd.R_types HO_5.out BK348.out (by decide)) (fun _ hk => hk.2) (.int .i64 ((rd_T98 l0_1 x8_3).f0))) (fun _ hk => hk.2) (.int .i64 ((rd_T98 l0_1 x8_3).f1))) (fun _ hk => hk.2) (.int .i64 ((rd_T98 l0_1 x8_3).f2))) (fun _ hk => hk.2) (.int .i64 ((rd_T98 l0_1 x8_3).f3))) (fun _ hk => trivial))⟩, ⟨by (try simp only [hl5_2]); (try simp only [hl5_3]); (with_reducible repeat (first | refine blk_drewN ?_ _ | refine blk_drew ?_ | refine blk_alloc ?_ _)); refine blk_far ?_ NB341_348.out _; (with_reducible repeat (first | refine blk_drewN ?_ _ | refine blk_drew ?_ | refine blk_alloc ?_ _)); refine blk_far ?_ NB341_348.out _; (with_reducible repeat (first | refine blk_drewN ?_ _ | refine blk_drew ?_ | refine blk_alloc ?_ _)); refine blk_far ?_ NB341_348.out _; (with_reducible repeat (first | refine blk_drewN ?_ _ | refine blk_drew ?_ | refine blk_alloc ?_ _)); refine blk_far ?_ NB341_348.out _; exact bx BK341.out⟩, ⟨lb⟩⟩
 rw [if_pos c32] at H; have c32b := be2 c32; clear c32; obtain ⟨y351, hy351⟩ : ∃ y_ : List Int, y_ = (x5_3.set (((rd_T98 l0_1 x8_3).f1) : Int).toNat x8_3) := ⟨_, rfl⟩; replace H : (compassref11_reach.l2 k3 y351 x7_2 (wrap64 (x8_3 + 1)) a0_0 l0_1) = some r := by first | (rw [hy351]; exact H) | exact H
 have Ny351 := ak hy351; clear hy351; have H' := ak H; clear H; have ⟨_, _, _, _⟩ := cf2 BK341; obtain ⟨p347, q347, ad347, e347, hx347_0, hx347_1, hx347_2, hx347_3⟩ := wq (at_T98 HR0_1.out x8_3); cases e347
 (try replace hx347_0 := hbc HB hx347_0)
 (try replace hx347_1 := hbc HB hx347_1)
 (try replace hx347_2 := hbc HB hx347_2)
 (try replace hx347_3 := hbc HB hx347_3)
 go_wp2_with (first | ((with_reducible refine gate_dst (N := 9) rfl ?_); refine bxe 9 #[.int .i64 0, .int .i64 0, .int .i64 0, .int .i64 0] 98 ?_; intro gb348 hg w35 hbox hb; have n_ := a8 (ro HO_5 hb) (bo BK341 hb) (bl hb) hbox (gw w hg) (gw w hg) (nl hg BK341) (nr hg BK341); clear HO_5 BK341 HB; obtain ⟨HO_5, BK341, HB, BK348, GW348, GE348, NB341_348, NB348_341⟩ := n_; clear hb hbox hg; have ⟨_, _⟩ := nn NB348_341; have ⟨_, _, _, _, _, _, _, _⟩ := cf4 BK348) | ((with_reducible refine gate_store (t := 98) (p := 9) rfl ?_); refine store_event (t := 98) (p := 9) (v := ?vo_w38) (w1 := ((((w35.setCell ⟨gb348, 0, none⟩ (.int .i64 ((rd_T98 l0_1 x8_3).f0))).setCell ⟨gb348, 1, none⟩ (.int .i64 ((rd_T98 l0_1 x8_3).f1))).setCell ⟨gb348, 2, none⟩ (.int .i64 ((rd_T98 l0_1 x8_3).f2))).setCell ⟨gb348, 3, none⟩ (.int .i64 ((rd_T98 l0_1 x8_3).f3)))) ?hg ?ho ?hn ?hr ?_; (case ho => rfl); (case hg => rfl); (case hn => rfl); (case hr => first | (go_simp; done) | (go_simp; rfl)); intro w38 hw; have n0_ : Aside0 (Kd.R (Kd.int .i64) 3 w38 w.heap.size (fun _ => True) (.slice (some ⟨go18, 0, none⟩) x5_3.length co18) x5_3) := ⟨(by rw [hw]; exact (by exact rx (Kd.R_mono (Kd.R_far (p := ⟨gb348, 3, none⟩) (Kd.R_far (p := ⟨gb348, 2, none⟩) (Kd.R_far (p := ⟨gb348, 1, none⟩) (Kd.R_far (p := ⟨gb348, 0, none⟩) (Kd.R_types HO_5.out BK348.out (by decide)) (fun _ hk => hk.2) (.int .i64 ((rd_T98 l0_1 x8_3).f0))) (fun _ hk => hk.2) (.int .i64 ((rd_T98 l0_1 x8_3).f1))) (fun _ hk => hk.2) (.int .i64 ((rd_T98 l0_1 x8_3).f2))) (fun _ hk => hk.2) (.int .i64 ((rd_T98 l0_1 x8_3).f3))) (fun _ hk => trivial))))⟩; have n1_ : Aside0 (w38.heap[gb341]? = some (.cells #[.int .i64 a0_0, .slice (some ad347) l0_1.length c0_1] 24 (0, 0))) := ⟨(by rw [hw]; exact (by (with_reducible repeat (first | refine blk_drewN ?_ _ | refine blk_drew ?_ | refine blk_alloc ?_ _)); refine blk_far ?_ NB341_348.out _; (with_reducible repeat (first | refine blk_drewN ?_ _ | refine blk_drew ?_ | refine blk_alloc ?_ _)); refine blk_far ?_ NB341_348.out _; (with_reducible repeat (first | refine blk_drewN ?_ _ | refine blk_drew ?_ | refine blk_alloc ?_ _)); refine blk_far ?_ NB341_348.out _; (with_reducible repeat (first | refine blk_drewN ?_ _ | refine blk_drew ?_ | refine blk_alloc ?_ _)); refine blk_far ?_ NB341_348.out _; exact bx BK341.out))⟩; have n2_ : Aside0 (w38.heap[gb348]? = some (.cells #[.int .i64 ((rd_T98 l0_1 x8_3).f0), .int .i64 ((rd_T98 l0_1 x8_3).f1), .int .i64 ((rd_T98 l0_1 x8_3).f2), .int .i64 ((rd_T98 l0_1 x8_3).f3)] 98 (0, 0))) := ⟨(by rw [hw]; exact (by (with_reducible repeat (first | refine blk_drewN ?_ _ | refine blk_drew ?_ | refine blk_alloc ?_ _)); refine blk_put (cs := #[.int .i64 ((rd_T98 l0_1 x8_3).f0), .int .i64 ((rd_T98 l0_1 x8_3).f1), .int .i64 ((rd_T98 l0_1 x8_3).f2), .int .i64 0]) ?_ 3 _ rfl; (with_reducible repeat (first | refine blk_drewN ?_ _ | refine blk_drew ?_ | refine blk_alloc ?_ _)); refine blk_put (cs := #[.int .i64 ((rd_T98 l0_1 x8_3).f0), .int .i64 ((rd_T98 l0_1 x8_3).f1), .int .i64 0, .int .i64 0]) ?_ 2 _ rfl; (with_reducible repeat (first | refine blk_drewN ?_ _ | refine blk_drew ?_ | refine blk_alloc ?_ _)); refine blk_put (cs := #[.int .i64 ((rd_T98 l0_1 x8_3).f0), .int .i64 0, .int .i64 0, .int .i64 0]) ?_ 1 _ rfl; (with_reducible repeat (first | refine blk_drewN ?_ _ | refine blk_drew ?_ | refine blk_alloc ?_ _)); refine blk_put (cs := #[.int .i64 0, .int .i64 0, .int .i64 0, .int .i64 0]) ?_ 0 _ rfl; exact bx BK348.out))⟩; have n3_ : Aside0 (Below w.heap.size w w38) := ⟨(by rw [hw]; exact lb)⟩; clear hw; clear HO_5; clear BK341; clear BK348; clear HB; have HO_5 := n0_; have BK341 := n1_; have BK348 := n2_; have HB := n3_; clear n0_ n1_ n2_ n3_; have ⟨_, _, _, _, _, _, _, _⟩ := cf4 BK348; obtain ⟨p349, q349, ad349, e349, hx349_0⟩ := wq (Kd.at_int (Kd.R_reads' HO_5.out).2.2 ((rd_T98 l0_1 x8_3).f0)); obtain rfl : (⟨go18, 0, none⟩ : Addr) = ad349 := (by injection e349); (first | simp only [add_plain] at hx349_0 | simp only [add_at] at hx349_0 | simp only [Addr.add, Nat.zero_add] at hx349_0 | skip); obtain ⟨p350, q350, ad350, e350, hx350_0⟩ := wq (Kd.at_int (Kd.R_reads' HO_5.out).2.2 ((rd_T98 l0_1 x8_3).f1)); obtain rfl : (⟨go18, 0, none⟩ : Addr) = ad350 := (by injection e350); (first | simp only [add_plain] at hx350_0 | simp only [add_at] at hx350_0 | simp only [Addr.add, Nat.zero_add] at hx350_0 | skip); have p33 : 0 ≤ (((rd_T98 l0_1 x8_3).f1) : Int) := oda; have q33 : (((rd_T98 l0_1 x8_3).f1) : Int) < ((x5_3.length : Int) : Int) := oda; obtain ⟨hx33_0, hf33_0⟩ := Kd.R_celln 0 HO_5.out (((rd_T98 l0_1 x8_3).f1) : Int) p33 q33; replace p33 := eq_true p33; replace q33 := eq_true q33; obtain ⟨hy40_, hz40_⟩ := Kd.R_celln 0 HO_5.out (((rd_T98 l0_1 x8_3).f1) : Int) (oda) (oda); have HP40 := Kd.R_putg HO_5.out (((rd_T98 l0_1 x8_3).f1) : Int) x8_3) | ((with_reducible refine gate_store (t := 3) (p := 66) rfl ?_); refine store_event (t := 3) (p := 66) (v := ?vo_w41) (w1 := (w38.setCell ⟨go18, (((rd_T98 l0_1 x8_3).f1) : Int).toNat, none⟩ (.int .i64 x8_3))) ?hg ?ho ?hn ?hr ?_; (case ho => rfl); (case hg => rfl); (case hn => rfl); (case hr => first | (go_simp; done) | (go_simp; rfl)); intro w41 hw; have hg : w38.grownBy w41 (some go18) := (by rw [hw]; exact HP40.2); have hp_ : Kd.R (Kd.int .i64) 3 w41 w.heap.size (fun _ => True) (.slice (some ⟨go18, 0, none⟩) x5_3.length co18) y351 := (by rw [hw, Ny351.out]; exact HP40.1); clear HP40; have n_ := a4 hp_ (blk_grown (bx BK341.out) hg (Kd.R_ne HO_5.out BK341.out (by decide))) (blk_grown (bx BK348.out) hg (Kd.R_ne HO_5.out BK348.out (by decide))) (by rw [hw]; exact below_set (HB.out) GB18.out : Below w.heap.size w w41); clear HO_5 BK341 BK348 HB; obtain ⟨HO_5, BK341, BK348, HB⟩ := n_; clear hg hw hp_))
 (try simp only [← hl5_3])
 go_roundg k3
 case measure => have := HK1.out; have := HK2.out; have := HK3.out; omega
 case rel => exact ⟨(y351), (wrap64 (x8_3 + 1)), sr, H', ⟨by have := HK1.out; have := HK2.out; have := HK3.out; omega⟩, ⟨by (try simp only [hl5_2]); (try simp only [hl5_3]); exact rx HO_5.out⟩, ⟨by (try simp only [hl5_2]); (try simp only [hl5_3]); exact bx BK341.out⟩, ⟨lb⟩⟩
end Go.Proofs.Ytkdoihcjhccliaa.Q
