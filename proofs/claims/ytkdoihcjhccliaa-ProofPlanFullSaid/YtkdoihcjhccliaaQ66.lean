import Derived.Test.YtkdoihcjhccliaaV4
import Derived.Test.YtkdoihcjhccliaaQ0
import Derived.Test.YtkdoihcjhccliaaQ3
namespace Go.Proofs.Ytkdoihcjhccliaa.Q
open Go.RowKit Go.Proofs.YtkdoihcjhccliaaW.PrintWords Go.Proofs.YtkdoihcjhccliaaW.PrintLast Go.Proofs.YtkdoihcjhccliaaW.PrintMore
attribute [local go_sem] max2_int min2_int max_two min_two max_three min_three max_four min_four   -- for this text's walks alone
set_option linter.unusedVariables false
set_option linter.unusedSimpArgs false

/-! ### compassref11_Below: function 72 -/
mutual
def compassref11_Below.l0 : Nat → List Int → List Int → Int → Int → Int → List (S98) → Option (List Int)
  | 0, _, _, _, _, _, _ => none
  | k + 1, x3, x4, x5, x6, x445000, x445001 => if x6 ≤ x445000 then (compassref11_Below.l1 k x3 x4 (-1) x6 0 x445000 x445001) else (if x5 < 0 then (some ([] : List Int)) else (compassref11_Below.l2 k x4 x5 0 x445000 x445001))
def compassref11_Below.l1 : Nat → List Int → List Int → Int → Int → Int → Int → List (S98) → Option (List Int)
  | 0, _, _, _, _, _, _, _ => none
  | k + 1, x3, x4, x5, x6, x7, x445000, x445001 => if x7 < (x445001.length : Int) then (if 0 ≤ x7 then (if 0 ≤ ((rd_T98 x445001 x7).f0) then (if ((rd_T98 x445001 x7).f0) < (x3.length : Int) then (if 0 ≤ ((rd_T98 x445001 x7).f1) then (if ((rd_T98 x445001 x7).f1) < (x3.length : Int) then (if (wrap64 ((rd x3 ((rd_T98 x445001 x7).f0)) + ((rd_T98 x445001 x7).f3))) < (rd x3 ((rd_T98 x445001 x7).f1)) then (if ((rd_T98 x445001 x7).f1) < (x4.length : Int) then (compassref11_Below.l1 k (x3.set (((rd_T98 x445001 x7).f1) : Int).toNat (wrap64 ((rd x3 ((rd_T98 x445001 x7).f0)) + ((rd_T98 x445001 x7).f3)))) (x4.set (((rd_T98 x445001 x7).f1) : Int).toNat x7) ((rd_T98 x445001 x7).f1) x6 (wrap64 (x7 + 1)) x445000 x445001) else (none)) else (compassref11_Below.l1 k x3 x4 x5 x6 (wrap64 (x7 + 1)) x445000 x445001)) else (none)) else (none)) else (none)) else (none)) else (none)) else (compassref11_Below.l0 k x3 x4 x5 (wrap64 (x6 + 1)) x445000 x445001)
def compassref11_Below.l2 : Nat → List Int → Int → Int → Int → List (S98) → Option (List Int)
  | 0, _, _, _, _, _ => none
  | k + 1, x4, x5, x9, x445000, x445001 => if x9 < x445000 then (if 0 ≤ x5 then (if x5 < (x4.length : Int) then (if 0 ≤ (rd x4 x5) then (if (rd x4 x5) < (x445001.length : Int) then (compassref11_Below.l2 k x4 ((rd_T98 x445001 (rd x4 x5)).f0) (wrap64 (x9 + 1)) x445000 x445001) else (none)) else (none)) else (none)) else (none)) else (if 0 ≤ x5 then (if x5 < (x4.length : Int) then (compassref11_Below.l3 k x4 x5 (([rd x4 x5] : List Int)) x445000 x445001) else (none)) else (none))
def compassref11_Below.l3 : Nat → List Int → Int → List Int → Int → List (S98) → Option (List Int)
  | 0, _, _, _, _, _ => none
  | k + 1, x4, x5, x10, x445000, x445001 => if 0 < (x10.length : Int) then (if 0 ≤ (rd x10 0) then (if (rd x10 0) < (x445001.length : Int) then (if ((rd_T98 x445001 (rd x10 0)).f0) = x5 then (some x10) else (if 0 ≤ ((rd_T98 x445001 (rd x10 0)).f0) then (if ((rd_T98 x445001 (rd x10 0)).f0) < (x4.length : Int) then ((some (([rd x4 ((rd_T98 x445001 (rd x10 0)).f0)] : List Int) : List Int)).bind fun y469 => (if y469.length + x10.length < 17592186044416 then (compassref11_Below.l3 k x4 x5 (y469 ++ x10) x445000 x445001) else (none))) else (none)) else (none))) else (none)) else (none)) else (none)
end
def compassref11_Below.f (k : Nat) (a0_0 : Int) (l0_1 : List (S98)) : Option (List Int) := if 0 ≤ a0_0 then (if (a0_0 : Int).toNat ≤ 35184372088832 then (compassref11_Below.l0 k (List.replicate (a0_0 : Int).toNat 0) (List.replicate (a0_0 : Int).toNat 0) (-1) 0 a0_0 l0_1) else (none)) else (none)
def compassref11_Below.T12 : Bool × List (List Nat × List Nat) := (true, [([], []), ([], []), ([1], [1]), ([0, 2], [0, 2]), ([3], [3]), ([], []), ([5], [5]), ([4, 6], [4, 6]), ([], []), ([], []), ([9], [9]), ([8, 10], [8, 10]), ([11], [11]), ([7, 12], [7, 12])])
def compassref11_Below.B12 : List Nat := [0, 0, 2, 7, 15, 0, 32, 127, 0, 0, 512, 1792, 3840, 8191]
theorem compassref11_Below.tab12 : rtab .any (opsOf Try.f72 12) = compassref11_Below.T12 := by kernel_rfl
theorem compassref11_Below.bits12 : waitsOk compassref11_Below.T12.2 compassref11_Below.B12 = true := by kernel_rfl
def compassref11_Below.T13 : Bool × List (List Nat × List Nat) := (true, [([], []), ([], []), ([1], [1]), ([], []), ([], []), ([4], [4]), ([3, 5], [3, 5]), ([6], [6]), ([], []), ([8], [8]), ([7, 9], [7, 9]), ([0, 2, 0, 1, 2, 3, 4, 5, 6, 7, 8, 9, 10], [0, 2]), ([11, 10, 0, 1, 2, 3, 4, 5, 6, 7, 8, 9, 10], [10, 11])])
def compassref11_Below.B13 : List Nat := [0, 0, 2, 0, 0, 16, 56, 120, 0, 256, 1016, 2047, 4095]
theorem compassref11_Below.tab13 : rtab .any (opsOf Try.f72 13) = compassref11_Below.T13 := by kernel_rfl
theorem compassref11_Below.bits13 : waitsOk compassref11_Below.T13.2 compassref11_Below.B13 = true := by kernel_rfl
def compassref11_Below.T21 : Bool × List (List Nat × List Nat) := (true, [([], []), ([0], [0]), ([], []), ([], []), ([2, 3], [2, 3]), ([4], [4]), ([1, 5], [1, 5]), ([6], [6]), ([7], [7]), ([8, 0, 1, 2, 3, 4, 5, 6, 7, 8], [3, 8])])
def compassref11_Below.B21 : List Nat := [0, 1, 0, 0, 12, 28, 63, 127, 255, 511]
theorem compassref11_Below.tab21 : rtab .any (opsOf Try.f72 21) = compassref11_Below.T21 := by kernel_rfl
theorem compassref11_Below.bits21 : waitsOk compassref11_Below.T21.2 compassref11_Below.B21 = true := by kernel_rfl
def compassref11_Below.T23 : Bool × List (List Nat × List Nat) := (true, [([], []), ([0], [0]), ([], []), ([2], [2]), ([3], [3]), ([1, 4], [1, 4]), ([5], [5]), ([6], [6]), ([], []), ([7, 8], [7, 8])])
def compassref11_Below.B23 : List Nat := [0, 1, 0, 4, 12, 31, 63, 127, 0, 511]
theorem compassref11_Below.tab23 : rtab .any (opsOf Try.f72 23) = compassref11_Below.T23 := by kernel_rfl
theorem compassref11_Below.bits23 : waitsOk compassref11_Below.T23.2 compassref11_Below.B23 = true := by kernel_rfl
def compassref11_Below.T24 : Bool × List (List Nat × List Nat) := (true, [([], []), ([], []), ([1], [1]), ([], []), ([3], [3]), ([4], [4]), ([2, 5], [2, 5]), ([6], [6]), ([7], [7]), ([0, 8], [0, 8]), ([9], [9]), ([10], [10]), ([], []), ([11, 12], [11, 12]), ([13, 13, 0, 1, 2, 3, 4, 5, 6, 7, 8, 9, 10, 11, 12, 13], [3, 12, 13])])
def compassref11_Below.B24 : List Nat := [0, 0, 2, 0, 8, 24, 62, 126, 254, 511, 1023, 2047, 0, 8191, 16383]
theorem compassref11_Below.tab24 : rtab .any (opsOf Try.f72 24) = compassref11_Below.T24 := by kernel_rfl
theorem compassref11_Below.bits24 : waitsOk compassref11_Below.T24.2 compassref11_Below.B24 = true := by kernel_rfl
set_option maxHeartbeats 8000000 in
set_option maxRecDepth 100000 in
theorem compassref11_Below.calls (k : Nat) (a0_0 : Int) (A0_1 : Option Addr) (c0_1 : Nat) (l0_1 : List (S98)) (r : List Int) (w : World) (hr0_1 : Kd.C k98 w A0_1 l0_1.length l0_1) (hc0_1 : l0_1.length ≤ c0_1) (h : compassref11_Below.f k a0_0 l0_1 = some r) :
    Calls Try.prog 72 #[.agg #[.int .i64 a0_0, .slice A0_1 l0_1.length c0_1]] w fun e w' => ∃ v0_ : Value, e = .returned (v0_) ∧ Kd.R (Kd.int .i64) 3 w' w.heap.size (fun _ => True) v0_ r ∧ Below w.heap.size w w' := by
 have hu24 := Try.underlying24; have hu98 := Try.underlying98; have HR0_1 := ak hr0_1; have HC0_1 := ak hc0_1; clear hr0_1 hc0_1; have HB := ak (Below.refl w.heap.size w); have H : (if 0 ≤ a0_0 then (if (a0_0 : Int).toNat ≤ 35184372088832 then (compassref11_Below.l0 k (List.replicate (a0_0 : Int).toNat 0) (List.replicate (a0_0 : Int).toNat 0) (-1) 0 a0_0 l0_1) else (none)) else (none)) = some r := h; clear h; replace H := ife H; obtain ⟨c2b0, c2b1, H⟩ := H; replace H := ife H; obtain ⟨c3b0, c3b1, H⟩ := H; obtain ⟨y445, hy445⟩ : ∃ y_ : List Int, y_ = (List.replicate (a0_0 : Int).toNat 0) := ⟨_, rfl⟩; replace H : (compassref11_Below.l0 k y445 (List.replicate (a0_0 : Int).toNat 0) (-1) 0 a0_0 l0_1) = some r := by first | (rw [hy445]; exact H) | exact H
 have Ny445 := ak hy445; clear hy445; obtain ⟨y448, hy448⟩ : ∃ y_ : List Int, y_ = (List.replicate (a0_0 : Int).toNat 0) := ⟨_, rfl⟩; replace H : (compassref11_Below.l0 k y445 y448 (-1) 0 a0_0 l0_1) = some r := by first | (rw [hy448]; exact H) | exact H
 have Ny448 := ak hy448; clear hy448; have H' := ak H; clear H
 go_enter Try.func72, Try.ntmps72
 go_wp2_with (first | ((with_reducible refine gate_dst (N := 1) rfl ?_); refine bxe 1 #[.int .i64 a0_0, .slice A0_1 l0_1.length c0_1] 24 ?_; intro gb444 hg w4 hbox hb; have n_ := a4 (bl hb) hbox (gw w hg) (gw w hg); clear HB; obtain ⟨HB, BK444, GW444, GE444⟩ := n_; clear hb hbox hg; have ⟨_, _, _, _⟩ := cf2 BK444) | ((with_reducible refine gate_dst (N := 13) rfl ?_); refine Kd.R_make (Kd.int .i64) _ 2 rfl (N := 13) rfl 25 _ _ rfl a0_0 rfl rfl Try.underlying25 (.int .i64 0) 8 info2 rfl (by decide) (by omega) 0 (ok := fun _ => True) (okp := fun _ => True) rfl (fun _ hk => hk) trivial (oda) (Nat.le_trans (Nat.mul_le_mul_right _ (oda : a0_0.toNat ≤ 35184372088832)) (by omega)) (Below.refl _ _) (Nat.le_refl _) ?_; intro v446 w6 ho7 hb hg_ hnew_; clear hg_ hnew_; (first | rw [← Ny445.out] at ho7 | (simp only [Int.reduceToNat] at ho7; rw [← Ny445.out] at ho7)); have n_ := a3 (Kd.R_lower ho7 (below_size lb)) (bo BK444 hb) (bl hb); clear BK444 HB; obtain ⟨HO447, BK444, HB⟩ := n_; clear hb ho7; have ⟨_, _, _, _⟩ := cf2 BK444) | ((with_reducible refine gate_dst (N := 16) rfl ?_); refine Kd.R_make (Kd.int .i64) _ 3 rfl (N := 16) rfl 70 _ _ rfl a0_0 rfl rfl Try.underlying70 (.int .i64 0) 8 info3 rfl (by decide) (by omega) 0 (ok := fun _ => True) (okp := fun _ => True) rfl (fun _ hk => hk) trivial (oda) (Nat.le_trans (Nat.mul_le_mul_right _ (oda : a0_0.toNat ≤ 35184372088832)) (by omega)) (Below.refl _ _) (Nat.le_refl _) ?_; intro v449 w9 ho10 hb hg_ hnew_; clear hg_ hnew_; (first | rw [← Ny448.out] at ho10 | (simp only [Int.reduceToNat] at ho10; rw [← Ny448.out] at ho10)); have n_ := a4 (ro HO447 hb) (Kd.R_lower ho10 (below_size lb)) (bo BK444 hb) (bl hb); clear HO447 BK444 HB; obtain ⟨HO447, HO450, BK444, HB⟩ := n_; clear hb ho10))
 go_loopg [5, 6] k (fun kq v5 v6 w' => ∃ (x3_1 : List Int) (x4_1 : List Int) (x5_1 : Int) (x6_1 : Int), v5 = .int .i64 x5_1 ∧ v6 = .int .i64 x6_1 ∧ Aside0 (compassref11_Below.l0 kq x3_1 x4_1 x5_1 x6_1 a0_0 l0_1 = some r) ∧ Aside0 (kq ≤ k) ∧ Aside0 (Kd.R (Kd.int .i64) 2 w' w.heap.size (fun _ => True) v446 x3_1) ∧ Aside0 (Kd.R (Kd.int .i64) 3 w' w.heap.size (fun _ => True) v449 x4_1) ∧ Aside0 (w'.heap[gb444]? = some (.cells #[.int .i64 a0_0, (.slice A0_1 l0_1.length c0_1)] 24 (0, 0))) ∧ Aside0 (Below w.heap.size w w'))
 case atStart => exact ⟨(y445), (y448), ((-1)), (0), sr, sr, H', ⟨Nat.le_refl _⟩, ⟨rx HO447.out⟩, ⟨rx HO450.out⟩, xb BK444, ⟨lb⟩⟩
 clear H'; obtain ⟨x3_1, x4_1, x5_1, x6_1, rfl, rfl, HA, HK1, HO_3, HO_4, BK444, HB⟩ := hrel
 cases gk with
 | zero => exact absurd HA.out (by simp [compassref11_Below.l0])
 | succ k1 => ?_
 have H := HA.out; clear HA
 simp only [compassref11_Below.l0] at H
 by_cases c11 : x6_1 ≤ a0_0
 ·
  rw [if_pos c11] at H; have c11b0 := decide_eq_true c11; clear c11; have H' := ak H; clear H; have ⟨_, _, _, _⟩ := cf2 BK444
  go_wp2
  go_loopg [5, 7] k1 (fun kq v5 v7 w' => ∃ (x3_2 : List Int) (x4_2 : List Int) (x5_2 : Int) (x7_2 : Int), v5 = .int .i64 x5_2 ∧ v7 = .int .i64 x7_2 ∧ Aside0 (compassref11_Below.l1 kq x3_2 x4_2 x5_2 x6_1 x7_2 a0_0 l0_1 = some r) ∧ Aside0 (kq ≤ k1) ∧ Aside0 (Kd.R (Kd.int .i64) 2 w' w.heap.size (fun _ => True) v446 x3_2) ∧ Aside0 (Kd.R (Kd.int .i64) 3 w' w.heap.size (fun _ => True) v449 x4_2) ∧ Aside0 (w'.heap[gb444]? = some (.cells #[.int .i64 a0_0, (.slice A0_1 l0_1.length c0_1)] 24 (0, 0))) ∧ Aside0 (Below w.heap.size w w'))
  case atStart => exact ⟨(x3_1), (x4_1), ((-1)), (0), sr, sr, H', ⟨Nat.le_refl _⟩, ⟨rx HO_3.out⟩, ⟨rx HO_4.out⟩, xb BK444, ⟨lb⟩⟩
  clear H'; obtain ⟨x3_2, x4_2, x5_2, x7_2, rfl, rfl, HA, HK2, HO_3, HO_4, BK444, HB⟩ := hrel
  cases gk with
  | zero => exact absurd HA.out (by simp [compassref11_Below.l1])
  | succ k2 => ?_
  have H := HA.out; clear HA
  simp only [compassref11_Below.l1] at H
  by_cases c13 : x7_2 < (l0_1.length : Int)
  rotate_left
  ·
   rw [if_neg c13] at H; have c13b0 := decide_eq_false c13; clear c13; have H' := ak H; clear H; have ⟨_, _, _, _⟩ := cf2 BK444
   go_wp2
   go_roundg k2
   case measure => have := HK1.out; have := HK2.out; omega
   case rel => exact ⟨(x3_2), (x4_2), (x5_2), (wrap64 (x6_1 + 1)), sr, sr, H', ⟨by have := HK1.out; have := HK2.out; omega⟩, ⟨rx HO_3.out⟩, ⟨rx HO_4.out⟩, xb BK444, ⟨lb⟩⟩
  rw [if_pos c13] at H; have c13b0 := decide_eq_true c13; clear c13; replace H := if3 H; obtain ⟨c14b0, c15b0, c16b0, H⟩ := H; replace H := if2 H; obtain ⟨c17b0, c18b0, H⟩ := H
  by_cases c19 : (wrap64 ((rd x3_2 ((rd_T98 l0_1 x7_2).f0)) + ((rd_T98 l0_1 x7_2).f3))) < (rd x3_2 ((rd_T98 l0_1 x7_2).f1))
  rotate_left
  ·
   rw [if_neg c19] at H; have c19b0 := decide_eq_false c19; clear c19; have H' := ak H; clear H; have ⟨_, _, _, _⟩ := cf2 BK444; obtain ⟨p451, q451, ad451, e451, hx451_0, hx451_1, hx451_2, hx451_3⟩ := wq (at_T98 HR0_1.out x7_2); cases e451
   (try replace hx451_0 := hbc HB hx451_0)
   (try replace hx451_1 := hbc HB hx451_1)
   (try replace hx451_2 := hbc HB hx451_2)
   (try replace hx451_3 := hbc HB hx451_3)
   try go_wp2_with (first | ((with_reducible refine gate_dst (N := 8) rfl ?_); refine bxe 8 #[.int .i64 0, .int .i64 0, .int .i64 0, .int .i64 0] 98 ?_; intro gb452 hg w38 hbox hb; have n_ := a9 (ro HO_3 hb) (ro HO_4 hb) (bo BK444 hb) (bl hb) hbox (gw w hg) (gw w hg) (nl hg BK444) (nr hg BK444); clear HO_3 HO_4 BK444 HB; obtain ⟨HO_3, HO_4, BK444, HB, BK452, GW452, GE452, NB444_452, NB452_444⟩ := n_; clear hb hbox hg; have ⟨_, _⟩ := nn NB452_444; have ⟨_, _, _, _, _, _, _, _⟩ := cf4 BK452))
   have n0_ : Aside0 (Kd.R (Kd.int .i64) 2 ((((w38.setCell ⟨gb452, 0, none⟩ (.int .i64 ((rd_T98 l0_1 x7_2).f0))).setCell ⟨gb452, 1, none⟩ (.int .i64 ((rd_T98 l0_1 x7_2).f1))).setCell ⟨gb452, 2, none⟩ (.int .i64 ((rd_T98 l0_1 x7_2).f2))).setCell ⟨gb452, 3, none⟩ (.int .i64 ((rd_T98 l0_1 x7_2).f3))) w.heap.size (fun _ => True) v446 x3_2) := ⟨by exact rx (Kd.R_mono (Kd.R_far (p := ⟨gb452, 3, none⟩) (Kd.R_far (p := ⟨gb452, 2, none⟩) (Kd.R_far (p := ⟨gb452, 1, none⟩) (Kd.R_far (p := ⟨gb452, 0, none⟩) (Kd.R_types HO_3.out BK452.out (by decide)) (fun _ hk => hk.2) (.int .i64 ((rd_T98 l0_1 x7_2).f0))) (fun _ hk => hk.2) (.int .i64 ((rd_T98 l0_1 x7_2).f1))) (fun _ hk => hk.2) (.int .i64 ((rd_T98 l0_1 x7_2).f2))) (fun _ hk => hk.2) (.int .i64 ((rd_T98 l0_1 x7_2).f3))) (fun _ hk => trivial))⟩
   have n1_ : Aside0 (Kd.R (Kd.int .i64) 3 ((((w38.setCell ⟨gb452, 0, none⟩ (.int .i64 ((rd_T98 l0_1 x7_2).f0))).setCell ⟨gb452, 1, none⟩ (.int .i64 ((rd_T98 l0_1 x7_2).f1))).setCell ⟨gb452, 2, none⟩ (.int .i64 ((rd_T98 l0_1 x7_2).f2))).setCell ⟨gb452, 3, none⟩ (.int .i64 ((rd_T98 l0_1 x7_2).f3))) w.heap.size (fun _ => True) v449 x4_2) := ⟨by exact rx (Kd.R_mono (Kd.R_far (p := ⟨gb452, 3, none⟩) (Kd.R_far (p := ⟨gb452, 2, none⟩) (Kd.R_far (p := ⟨gb452, 1, none⟩) (Kd.R_far (p := ⟨gb452, 0, none⟩) (Kd.R_types HO_4.out BK452.out (by decide)) (fun _ hk => hk.2) (.int .i64 ((rd_T98 l0_1 x7_2).f0))) (fun _ hk => hk.2) (.int .i64 ((rd_T98 l0_1 x7_2).f1))) (fun _ hk => hk.2) (.int .i64 ((rd_T98 l0_1 x7_2).f2))) (fun _ hk => hk.2) (.int .i64 ((rd_T98 l0_1 x7_2).f3))) (fun _ hk => trivial))⟩
   have n2_ : Aside0 (((((w38.setCell ⟨gb452, 0, none⟩ (.int .i64 ((rd_T98 l0_1 x7_2).f0))).setCell ⟨gb452, 1, none⟩ (.int .i64 ((rd_T98 l0_1 x7_2).f1))).setCell ⟨gb452, 2, none⟩ (.int .i64 ((rd_T98 l0_1 x7_2).f2))).setCell ⟨gb452, 3, none⟩ (.int .i64 ((rd_T98 l0_1 x7_2).f3))).heap[gb444]? = some (.cells #[.int .i64 a0_0, .slice (some ad451) l0_1.length c0_1] 24 (0, 0))) := ⟨by (with_reducible repeat (first | refine blk_drewN ?_ _ | refine blk_drew ?_ | refine blk_alloc ?_ _)); refine blk_far ?_ NB444_452.out _; (with_reducible repeat (first | refine blk_drewN ?_ _ | refine blk_drew ?_ | refine blk_alloc ?_ _)); refine blk_far ?_ NB444_452.out _; (with_reducible repeat (first | refine blk_drewN ?_ _ | refine blk_drew ?_ | refine blk_alloc ?_ _)); refine blk_far ?_ NB444_452.out _; (with_reducible repeat (first | refine blk_drewN ?_ _ | refine blk_drew ?_ | refine blk_alloc ?_ _)); refine blk_far ?_ NB444_452.out _; exact bx BK444.out⟩
   have n3_ : Aside0 (((((w38.setCell ⟨gb452, 0, none⟩ (.int .i64 ((rd_T98 l0_1 x7_2).f0))).setCell ⟨gb452, 1, none⟩ (.int .i64 ((rd_T98 l0_1 x7_2).f1))).setCell ⟨gb452, 2, none⟩ (.int .i64 ((rd_T98 l0_1 x7_2).f2))).setCell ⟨gb452, 3, none⟩ (.int .i64 ((rd_T98 l0_1 x7_2).f3))).heap[gb452]? = some (.cells #[.int .i64 ((rd_T98 l0_1 x7_2).f0), .int .i64 ((rd_T98 l0_1 x7_2).f1), .int .i64 ((rd_T98 l0_1 x7_2).f2), .int .i64 ((rd_T98 l0_1 x7_2).f3)] 98 (0, 0))) := ⟨by (with_reducible repeat (first | refine blk_drewN ?_ _ | refine blk_drew ?_ | refine blk_alloc ?_ _)); refine blk_put (cs := #[.int .i64 ((rd_T98 l0_1 x7_2).f0), .int .i64 ((rd_T98 l0_1 x7_2).f1), .int .i64 ((rd_T98 l0_1 x7_2).f2), .int .i64 0]) ?_ 3 _ rfl; (with_reducible repeat (first | refine blk_drewN ?_ _ | refine blk_drew ?_ | refine blk_alloc ?_ _)); refine blk_put (cs := #[.int .i64 ((rd_T98 l0_1 x7_2).f0), .int .i64 ((rd_T98 l0_1 x7_2).f1), .int .i64 0, .int .i64 0]) ?_ 2 _ rfl; (with_reducible repeat (first | refine blk_drewN ?_ _ | refine blk_drew ?_ | refine blk_alloc ?_ _)); refine blk_put (cs := #[.int .i64 ((rd_T98 l0_1 x7_2).f0), .int .i64 0, .int .i64 0, .int .i64 0]) ?_ 1 _ rfl; (with_reducible repeat (first | refine blk_drewN ?_ _ | refine blk_drew ?_ | refine blk_alloc ?_ _)); refine blk_put (cs := #[.int .i64 0, .int .i64 0, .int .i64 0, .int .i64 0]) ?_ 0 _ rfl; exact bx BK452.out⟩
   have n4_ : Aside0 (Below w.heap.size w ((((w38.setCell ⟨gb452, 0, none⟩ (.int .i64 ((rd_T98 l0_1 x7_2).f0))).setCell ⟨gb452, 1, none⟩ (.int .i64 ((rd_T98 l0_1 x7_2).f1))).setCell ⟨gb452, 2, none⟩ (.int .i64 ((rd_T98 l0_1 x7_2).f2))).setCell ⟨gb452, 3, none⟩ (.int .i64 ((rd_T98 l0_1 x7_2).f3)))) := ⟨lb⟩
   (try clear HO_3)
   (try clear HO_4)
   (try clear BK444)
   (try clear BK452)
   (try clear HB)
   generalize ((((w38.setCell ⟨gb452, 0, none⟩ (.int .i64 ((rd_T98 l0_1 x7_2).f0))).setCell ⟨gb452, 1, none⟩ (.int .i64 ((rd_T98 l0_1 x7_2).f1))).setCell ⟨gb452, 2, none⟩ (.int .i64 ((rd_T98 l0_1 x7_2).f2))).setCell ⟨gb452, 3, none⟩ (.int .i64 ((rd_T98 l0_1 x7_2).f3))) = w41 at n0_ n1_ n2_ n3_ n4_ ⊢
   have HO_3 := n0_; have HO_4 := n1_; have BK444 := n2_; have BK452 := n3_; have HB := n4_; clear n0_ n1_ n2_ n3_ n4_; have n_ := a5 (Kd.R_drew HO_3.out) (Kd.R_drew HO_4.out) (blk_drew BK444.out) (blk_drew BK452.out) (below_drew1 HB.out); clear HO_3 HO_4 BK444 BK452 HB; obtain ⟨HO_3, HO_4, BK444, BK452, HB⟩ := n_; obtain ⟨Ao43, co43, eo43⟩ := Kd.R_slice HO_3.out
   (first | subst eo43 | (injection eo43 with f1_ f2_ f3_; have f4_ := f1_.symm; have f5_ := f3_.symm; clear f1_ f2_ f3_; subst f4_; subst f5_))
   obtain ⟨p453, q453, ad453, e453, hx453_0⟩ := wq (Kd.at_int (Kd.R_reads' HO_3.out).2.2 ((rd_T98 l0_1 x7_2).f0)); cases e453; obtain ⟨p454, q454, ad454, e454, hx454_0⟩ := wq (Kd.at_int (Kd.R_reads' HO_3.out).2.2 ((rd_T98 l0_1 x7_2).f1))
   obtain rfl : ad453 = ad454 := (by injection e454)
   refine stC 14 [] (cX (bc0 BK452) (cX (bc1 BK452) (cX (bc2 BK452) (cX (bc3 BK452) (cX hx453_0 (cY hx454_0)))))) compassref11_Below.tab12 compassref11_Below.bits12 fun hHeld HT_ HW_ => ?_
   generalize w41.drew = w42 at HO_3 HO_4 BK444 BK452 HB hx453_0 hx454_0 hHeld ⊢
   refine pv HT_ 0 35 ?_; refine pv HT_ 1 36 ?_; refine pv HT_ 5 40 ?_; refine pv HT_ 8 43 ?_; refine pv HT_ 9 44 ?_; refine tv HT_ HW_ hHeld 2 37 ?_; refine pv HT_ 3 38 ?_; refine tv HT_ HW_ hHeld 4 39 ?_; refine tv HT_ HW_ hHeld 6 41 ?_; refine pv HT_ 7 42 ?_; refine tv HT_ HW_ hHeld 10 45 ?_; refine pv HT_ 11 46 ?_; refine tv HT_ HW_ hHeld 12 47 ?_; refine pv HT_ 13 48 ?_
   refine done_ (done_of HT_.out (by kernel_rfl)) ?_
   try go_wp2
   go_roundg k2
   case measure => have := HK1.out; have := HK2.out; omega
   case rel => exact ⟨(x3_2), (x4_2), (x5_2), (wrap64 (x7_2 + 1)), sr, sr, H', ⟨by have := HK1.out; have := HK2.out; omega⟩, ⟨rx HO_3.out⟩, ⟨rx HO_4.out⟩, xb BK444, ⟨lb⟩⟩
  rw [if_pos c19] at H; have c19b0 := decide_eq_true c19; clear c19; obtain ⟨y456, hy456⟩ : ∃ y_ : List Int, y_ = (x3_2.set (((rd_T98 l0_1 x7_2).f1) : Int).toNat (wrap64 ((rd x3_2 ((rd_T98 l0_1 x7_2).f0)) + ((rd_T98 l0_1 x7_2).f3)))) := ⟨_, rfl⟩; replace H : (if ((rd_T98 l0_1 x7_2).f1) < (x4_2.length : Int) then (compassref11_Below.l1 k2 y456 (x4_2.set (((rd_T98 l0_1 x7_2).f1) : Int).toNat x7_2) ((rd_T98 l0_1 x7_2).f1) x6_1 (wrap64 (x7_2 + 1)) a0_0 l0_1) else (none)) = some r := by first | (rw [hy456]; exact H) | exact H
  have Ny456 := ak hy456; clear hy456; replace H := ifd H; obtain ⟨c21b0, H⟩ := H; obtain ⟨y457, hy457⟩ : ∃ y_ : List Int, y_ = (x4_2.set (((rd_T98 l0_1 x7_2).f1) : Int).toNat x7_2) := ⟨_, rfl⟩; replace H : (compassref11_Below.l1 k2 y456 y457 ((rd_T98 l0_1 x7_2).f1) x6_1 (wrap64 (x7_2 + 1)) a0_0 l0_1) = some r := by first | (rw [hy457]; exact H) | exact H
  have Ny457 := ak hy457; clear hy457; have H' := ak H; clear H; have ⟨_, _, _, _⟩ := cf2 BK444; obtain ⟨p451, q451, ad451, e451, hx451_0, hx451_1, hx451_2, hx451_3⟩ := wq (at_T98 HR0_1.out x7_2); cases e451
  (try replace hx451_0 := hbc HB hx451_0)
  (try replace hx451_1 := hbc HB hx451_1)
  (try replace hx451_2 := hbc HB hx451_2)
  (try replace hx451_3 := hbc HB hx451_3)
  try go_wp2_with (first | ((with_reducible refine gate_dst (N := 8) rfl ?_); refine bxe 8 #[.int .i64 0, .int .i64 0, .int .i64 0, .int .i64 0] 98 ?_; intro gb452 hg w24 hbox hb; have n_ := a9 (ro HO_3 hb) (ro HO_4 hb) (bo BK444 hb) (bl hb) hbox (gw w hg) (gw w hg) (nl hg BK444) (nr hg BK444); clear HO_3 HO_4 BK444 HB; obtain ⟨HO_3, HO_4, BK444, HB, BK452, GW452, GE452, NB444_452, NB452_444⟩ := n_; clear hb hbox hg; have ⟨_, _⟩ := nn NB452_444; have ⟨_, _, _, _, _, _, _, _⟩ := cf4 BK452))
  have n0_ : Aside0 (Kd.R (Kd.int .i64) 2 ((((w24.setCell ⟨gb452, 0, none⟩ (.int .i64 ((rd_T98 l0_1 x7_2).f0))).setCell ⟨gb452, 1, none⟩ (.int .i64 ((rd_T98 l0_1 x7_2).f1))).setCell ⟨gb452, 2, none⟩ (.int .i64 ((rd_T98 l0_1 x7_2).f2))).setCell ⟨gb452, 3, none⟩ (.int .i64 ((rd_T98 l0_1 x7_2).f3))) w.heap.size (fun _ => True) v446 x3_2) := ⟨by exact rx (Kd.R_mono (Kd.R_far (p := ⟨gb452, 3, none⟩) (Kd.R_far (p := ⟨gb452, 2, none⟩) (Kd.R_far (p := ⟨gb452, 1, none⟩) (Kd.R_far (p := ⟨gb452, 0, none⟩) (Kd.R_types HO_3.out BK452.out (by decide)) (fun _ hk => hk.2) (.int .i64 ((rd_T98 l0_1 x7_2).f0))) (fun _ hk => hk.2) (.int .i64 ((rd_T98 l0_1 x7_2).f1))) (fun _ hk => hk.2) (.int .i64 ((rd_T98 l0_1 x7_2).f2))) (fun _ hk => hk.2) (.int .i64 ((rd_T98 l0_1 x7_2).f3))) (fun _ hk => trivial))⟩
  have n1_ : Aside0 (Kd.R (Kd.int .i64) 3 ((((w24.setCell ⟨gb452, 0, none⟩ (.int .i64 ((rd_T98 l0_1 x7_2).f0))).setCell ⟨gb452, 1, none⟩ (.int .i64 ((rd_T98 l0_1 x7_2).f1))).setCell ⟨gb452, 2, none⟩ (.int .i64 ((rd_T98 l0_1 x7_2).f2))).setCell ⟨gb452, 3, none⟩ (.int .i64 ((rd_T98 l0_1 x7_2).f3))) w.heap.size (fun _ => True) v449 x4_2) := ⟨by exact rx (Kd.R_mono (Kd.R_far (p := ⟨gb452, 3, none⟩) (Kd.R_far (p := ⟨gb452, 2, none⟩) (Kd.R_far (p := ⟨gb452, 1, none⟩) (Kd.R_far (p := ⟨gb452, 0, none⟩) (Kd.R_types HO_4.out BK452.out (by decide)) (fun _ hk => hk.2) (.int .i64 ((rd_T98 l0_1 x7_2).f0))) (fun _ hk => hk.2) (.int .i64 ((rd_T98 l0_1 x7_2).f1))) (fun _ hk => hk.2) (.int .i64 ((rd_T98 l0_1 x7_2).f2))) (fun _ hk => hk.2) (.int .i64 ((rd_T98 l0_1 x7_2).f3))) (fun _ hk => trivial))⟩
  have n2_ : Aside0 (((((w24.setCell ⟨gb452, 0, none⟩ (.int .i64 ((rd_T98 l0_1 x7_2).f0))).setCell ⟨gb452, 1, none⟩ (.int .i64 ((rd_T98 l0_1 x7_2).f1))).setCell ⟨gb452, 2, none⟩ (.int .i64 ((rd_T98 l0_1 x7_2).f2))).setCell ⟨gb452, 3, none⟩ (.int .i64 ((rd_T98 l0_1 x7_2).f3))).heap[gb444]? = some (.cells #[.int .i64 a0_0, .slice (some ad451) l0_1.length c0_1] 24 (0, 0))) := ⟨by (with_reducible repeat (first | refine blk_drewN ?_ _ | refine blk_drew ?_ | refine blk_alloc ?_ _)); refine blk_far ?_ NB444_452.out _; (with_reducible repeat (first | refine blk_drewN ?_ _ | refine blk_drew ?_ | refine blk_alloc ?_ _)); refine blk_far ?_ NB444_452.out _; (with_reducible repeat (first | refine blk_drewN ?_ _ | refine blk_drew ?_ | refine blk_alloc ?_ _)); refine blk_far ?_ NB444_452.out _; (with_reducible repeat (first | refine blk_drewN ?_ _ | refine blk_drew ?_ | refine blk_alloc ?_ _)); refine blk_far ?_ NB444_452.out _; exact bx BK444.out⟩
  have n3_ : Aside0 (((((w24.setCell ⟨gb452, 0, none⟩ (.int .i64 ((rd_T98 l0_1 x7_2).f0))).setCell ⟨gb452, 1, none⟩ (.int .i64 ((rd_T98 l0_1 x7_2).f1))).setCell ⟨gb452, 2, none⟩ (.int .i64 ((rd_T98 l0_1 x7_2).f2))).setCell ⟨gb452, 3, none⟩ (.int .i64 ((rd_T98 l0_1 x7_2).f3))).heap[gb452]? = some (.cells #[.int .i64 ((rd_T98 l0_1 x7_2).f0), .int .i64 ((rd_T98 l0_1 x7_2).f1), .int .i64 ((rd_T98 l0_1 x7_2).f2), .int .i64 ((rd_T98 l0_1 x7_2).f3)] 98 (0, 0))) := ⟨by (with_reducible repeat (first | refine blk_drewN ?_ _ | refine blk_drew ?_ | refine blk_alloc ?_ _)); refine blk_put (cs := #[.int .i64 ((rd_T98 l0_1 x7_2).f0), .int .i64 ((rd_T98 l0_1 x7_2).f1), .int .i64 ((rd_T98 l0_1 x7_2).f2), .int .i64 0]) ?_ 3 _ rfl; (with_reducible repeat (first | refine blk_drewN ?_ _ | refine blk_drew ?_ | refine blk_alloc ?_ _)); refine blk_put (cs := #[.int .i64 ((rd_T98 l0_1 x7_2).f0), .int .i64 ((rd_T98 l0_1 x7_2).f1), .int .i64 0, .int .i64 0]) ?_ 2 _ rfl; (with_reducible repeat (first | refine blk_drewN ?_ _ | refine blk_drew ?_ | refine blk_alloc ?_ _)); refine blk_put (cs := #[.int .i64 ((rd_T98 l0_1 x7_2).f0), .int .i64 0, .int .i64 0, .int .i64 0]) ?_ 1 _ rfl; (with_reducible repeat (first | refine blk_drewN ?_ _ | refine blk_drew ?_ | refine blk_alloc ?_ _)); refine blk_put (cs := #[.int .i64 0, .int .i64 0, .int .i64 0, .int .i64 0]) ?_ 0 _ rfl; exact bx BK452.out⟩
  have n4_ : Aside0 (Below w.heap.size w ((((w24.setCell ⟨gb452, 0, none⟩ (.int .i64 ((rd_T98 l0_1 x7_2).f0))).setCell ⟨gb452, 1, none⟩ (.int .i64 ((rd_T98 l0_1 x7_2).f1))).setCell ⟨gb452, 2, none⟩ (.int .i64 ((rd_T98 l0_1 x7_2).f2))).setCell ⟨gb452, 3, none⟩ (.int .i64 ((rd_T98 l0_1 x7_2).f3)))) := ⟨lb⟩
  (try clear HO_3)
  (try clear HO_4)
  (try clear BK444)
  (try clear BK452)
  (try clear HB)
  generalize ((((w24.setCell ⟨gb452, 0, none⟩ (.int .i64 ((rd_T98 l0_1 x7_2).f0))).setCell ⟨gb452, 1, none⟩ (.int .i64 ((rd_T98 l0_1 x7_2).f1))).setCell ⟨gb452, 2, none⟩ (.int .i64 ((rd_T98 l0_1 x7_2).f2))).setCell ⟨gb452, 3, none⟩ (.int .i64 ((rd_T98 l0_1 x7_2).f3))) = w27 at n0_ n1_ n2_ n3_ n4_ ⊢
  have HO_3 := n0_; have HO_4 := n1_; have BK444 := n2_; have BK452 := n3_; have HB := n4_; clear n0_ n1_ n2_ n3_ n4_; have n_ := a5 (Kd.R_drew HO_3.out) (Kd.R_drew HO_4.out) (blk_drew BK444.out) (blk_drew BK452.out) (below_drew1 HB.out); clear HO_3 HO_4 BK444 BK452 HB; obtain ⟨HO_3, HO_4, BK444, BK452, HB⟩ := n_; obtain ⟨Ao29, co29, eo29⟩ := Kd.R_slice HO_3.out
  (first | subst eo29 | (injection eo29 with f1_ f2_ f3_; have f4_ := f1_.symm; have f5_ := f3_.symm; clear f1_ f2_ f3_; subst f4_; subst f5_))
  obtain ⟨p453, q453, ad453, e453, hx453_0⟩ := wq (Kd.at_int (Kd.R_reads' HO_3.out).2.2 ((rd_T98 l0_1 x7_2).f0)); cases e453; obtain ⟨p454, q454, ad454, e454, hx454_0⟩ := wq (Kd.at_int (Kd.R_reads' HO_3.out).2.2 ((rd_T98 l0_1 x7_2).f1))
  obtain rfl : ad453 = ad454 := (by injection e454)
  refine stC 14 [] (cX (bc0 BK452) (cX (bc1 BK452) (cX (bc2 BK452) (cX (bc3 BK452) (cX hx453_0 (cY hx454_0)))))) compassref11_Below.tab12 compassref11_Below.bits12 fun hHeld HT_ HW_ => ?_
  generalize w27.drew = w28 at HO_3 HO_4 BK444 BK452 HB hx453_0 hx454_0 hHeld ⊢
  refine pv HT_ 0 35 ?_; refine pv HT_ 1 36 ?_; refine pv HT_ 5 40 ?_; refine pv HT_ 8 43 ?_; refine pv HT_ 9 44 ?_; refine tv HT_ HW_ hHeld 2 37 ?_; refine pv HT_ 3 38 ?_; refine tv HT_ HW_ hHeld 4 39 ?_; refine tv HT_ HW_ hHeld 6 41 ?_; refine pv HT_ 7 42 ?_; refine tv HT_ HW_ hHeld 10 45 ?_; refine pv HT_ 11 46 ?_; refine tv HT_ HW_ hHeld 12 47 ?_; refine pv HT_ 13 48 ?_
  refine done_ (done_of HT_.out (by kernel_rfl)) ?_
  try go_wp2
  have n_ := a5 (Kd.R_drew HO_3.out) (Kd.R_drew HO_4.out) (blk_drew BK444.out) (blk_drew BK452.out) (below_drew1 HB.out); clear HO_3 HO_4 BK444 BK452 HB; obtain ⟨HO_3, HO_4, BK444, BK452, HB⟩ := n_; obtain ⟨p455, q455, ad455, e455, hx455_0⟩ := wq (Kd.at_int (Kd.R_reads' HO_3.out).2.2 ((rd_T98 l0_1 x7_2).f0))
  obtain rfl : ad453 = ad455 := (by injection e455); have p20 : 0 ≤ (((rd_T98 l0_1 x7_2).f1) : Int) := oda; have q20 : (((rd_T98 l0_1 x7_2).f1) : Int) < ((x3_2.length : Int) : Int) := oda
  obtain ⟨go20, co20, eo20, gb20, gl20, cl20, HG20⟩ := Kd.R_form HO_3.out (by omega)
  (first | cases eo20 | (injection eo20 with ea_ en_ ec_; (first | subst ea_ | (injection ea_ with ea_; subst ea_)); subst ec_; clear en_))
  have GB20 := ak gb20; have GG20 := ak HG20; clear gb20 gl20 HG20
  (first | simp only [add_plain] at hx453_0 | skip)
  (first | simp only [add_plain] at hx454_0 | skip)
  (first | simp only [add_plain] at hx455_0 | skip)
  obtain ⟨hx20_0, hf20_0⟩ := Kd.R_celln 0 HO_3.out (((rd_T98 l0_1 x7_2).f1) : Int) p20 q20; replace p20 := eq_true p20; replace q20 := eq_true q20; have HP31 := Kd.R_putn HO_3.out (((rd_T98 l0_1 x7_2).f1) : Int) (wrap64 ((rd x3_2 ((rd_T98 l0_1 x7_2).f0)) + ((rd_T98 l0_1 x7_2).f3))); rw [← Ny456.out] at HP31; have HQ31 := ak HP31; clear HP31
  refine stC 13 [12] (cX (bc0 BK452) (cX (bc1 BK452) (cX (bc2 BK452) (cX (bc3 BK452) (cY hx455_0))))) compassref11_Below.tab13 compassref11_Below.bits13 fun hHeld HT_ HW_ => ?_
  generalize w28.drew = w30 at HO_3 HO_4 BK444 BK452 HB GG20 HQ31 hf20_0 hx20_0 hx453_0 hx454_0 hx455_0 hHeld ⊢
  refine pv HT_ 0 49 ?_; refine pv HT_ 1 50 ?_; refine pv HT_ 3 52 ?_; refine pv HT_ 4 53 ?_; refine pv HT_ 8 57 ?_; refine tv HT_ HW_ hHeld 2 51 ?_; refine tv HT_ HW_ hHeld 5 54 ?_; refine pv HT_ 6 55 ?_; refine tv HT_ HW_ hHeld 7 56 ?_; refine tv HT_ HW_ hHeld 9 58 ?_; refine pv HT_ 10 59 ?_; refine pv HT_ 11 60 ?_
  refine last_ (i := 12) (N := none) #[T, T, T, T, T, T, T, T, T, T, T, T, T] rfl rfl (one_of HT_.out (by kernel_rfl)) (by decide) (fun K hK => ?_)
  refine skip_ (w1 := ?_) (by rfl) rfl ?_ ?_
  rotate_left
  ·
   go_simp
   rfl
  refine hK.out _ _ ?_
  clear hK K
  refine done_ (done_of HT_.out (by kernel_rfl)) ?_
  have n0_ : Aside0 (Kd.R (Kd.int .i64) 2 (w30.setCell ⟨go20, (((rd_T98 l0_1 x7_2).f1) : Int).toNat, none⟩ (.int .i64 (wrap64 ((rd x3_2 ((rd_T98 l0_1 x7_2).f0)) + ((rd_T98 l0_1 x7_2).f3))))) w.heap.size (fun _ => True) (.slice (some ⟨go20, 0, none⟩) x3_2.length co29) y456) := ⟨by (with_reducible repeat (first | apply Kd.R_alloc | apply Kd.R_drewN | apply Kd.R_drew)); exact HQ31.out⟩
  have n1_ : Aside0 (Kd.R (Kd.int .i64) 3 (w30.setCell ⟨go20, (((rd_T98 l0_1 x7_2).f1) : Int).toNat, none⟩ (.int .i64 (wrap64 ((rd x3_2 ((rd_T98 l0_1 x7_2).f0)) + ((rd_T98 l0_1 x7_2).f3))))) w.heap.size (fun _ => True) v449 x4_2) := ⟨by exact rx (Kd.R_mono (Kd.R_far (p := ⟨go20, (((rd_T98 l0_1 x7_2).f1) : Int).toNat, none⟩) (Kd.R_types HO_4.out GG20.out (by decide)) (fun _ hk => hk.2) (.int .i64 (wrap64 ((rd x3_2 ((rd_T98 l0_1 x7_2).f0)) + ((rd_T98 l0_1 x7_2).f3))))) (fun _ hk => trivial))⟩
  have n2_ : Aside0 ((w30.setCell ⟨go20, (((rd_T98 l0_1 x7_2).f1) : Int).toNat, none⟩ (.int .i64 (wrap64 ((rd x3_2 ((rd_T98 l0_1 x7_2).f0)) + ((rd_T98 l0_1 x7_2).f3))))).heap[gb444]? = some (.cells #[.int .i64 a0_0, .slice (some ad451) l0_1.length c0_1] 24 (0, 0))) := ⟨by (with_reducible repeat (first | refine blk_drewN ?_ _ | refine blk_drew ?_ | refine blk_alloc ?_ _)); refine blk_far ?_ (by have h_ := Kd.R_ne HO_3.out BK444.out (by decide); intro e_; exact h_ (by rw [e_]; rfl)) _; exact bx BK444.out⟩
  have n3_ : Aside0 ((w30.setCell ⟨go20, (((rd_T98 l0_1 x7_2).f1) : Int).toNat, none⟩ (.int .i64 (wrap64 ((rd x3_2 ((rd_T98 l0_1 x7_2).f0)) + ((rd_T98 l0_1 x7_2).f3))))).heap[gb452]? = some (.cells #[.int .i64 ((rd_T98 l0_1 x7_2).f0), .int .i64 ((rd_T98 l0_1 x7_2).f1), .int .i64 ((rd_T98 l0_1 x7_2).f2), .int .i64 ((rd_T98 l0_1 x7_2).f3)] 98 (0, 0))) := ⟨by (with_reducible repeat (first | refine blk_drewN ?_ _ | refine blk_drew ?_ | refine blk_alloc ?_ _)); refine blk_far ?_ (by have h_ := Kd.R_ne HO_3.out BK452.out (by decide); intro e_; exact h_ (by rw [e_]; rfl)) _; exact bx BK452.out⟩
  have n4_ : Aside0 (Below w.heap.size w (w30.setCell ⟨go20, (((rd_T98 l0_1 x7_2).f1) : Int).toNat, none⟩ (.int .i64 (wrap64 ((rd x3_2 ((rd_T98 l0_1 x7_2).f0)) + ((rd_T98 l0_1 x7_2).f3)))))) := ⟨by repeat (first | (with_reducible first | exact HB.out | apply below_alloc | apply pw_below_drewN | apply below_drew1 | refine below_set ?_ GB20.out | refine below_set ?_ GE444.out | refine below_set ?_ GE452.out) | exact HB.out)⟩
  (try clear HO_3)
  (try clear HO_4)
  (try clear BK444)
  (try clear BK452)
  (try clear HB)
  generalize (w30.setCell ⟨go20, (((rd_T98 l0_1 x7_2).f1) : Int).toNat, none⟩ (.int .i64 (wrap64 ((rd x3_2 ((rd_T98 l0_1 x7_2).f0)) + ((rd_T98 l0_1 x7_2).f3))))) = w32 at n0_ n1_ n2_ n3_ n4_ ⊢
  have HO_3 := n0_; have HO_4 := n1_; have BK444 := n2_; have BK452 := n3_; have HB := n4_; clear n0_ n1_ n2_ n3_ n4_; have ⟨_, _, _, _, _, _, _, _⟩ := cf4 BK452; have p22 : 0 ≤ (((rd_T98 l0_1 x7_2).f1) : Int) := oda; have q22 : (((rd_T98 l0_1 x7_2).f1) : Int) < ((x4_2.length : Int) : Int) := oda
  obtain ⟨go22, co22, eo22, gb22, gl22, cl22, HG22⟩ := Kd.R_form HO_4.out (by omega)
  (first | cases eo22 | (injection eo22 with ea_ en_ ec_; (first | subst ea_ | (injection ea_ with ea_; subst ea_)); subst ec_; clear en_))
  have GB22 := ak gb22; have GG22 := ak HG22; clear gb22 gl22 HG22; obtain ⟨hx22_0, hf22_0⟩ := Kd.R_celln 0 HO_4.out (((rd_T98 l0_1 x7_2).f1) : Int) p22 q22; replace p22 := eq_true p22; replace q22 := eq_true q22; obtain ⟨hy34_, hz34_⟩ := Kd.R_celln 0 HO_4.out (((rd_T98 l0_1 x7_2).f1) : Int) (oda) (oda); have HP34 := Kd.R_putg HO_4.out (((rd_T98 l0_1 x7_2).f1) : Int) x7_2
  try go_wp2_with (first | ((with_reducible refine gate_store (t := 3) (p := 65) rfl ?_); refine store_event (t := 3) (p := 65) (v := ?vo_w35) (w1 := (w32.setCell ⟨go22, (((rd_T98 l0_1 x7_2).f1) : Int).toNat, none⟩ (.int .i64 x7_2))) ?hg ?ho ?hn ?hr ?_; (case ho => rfl); (case hg => rfl); (case hn => rfl); (case hr => first | (go_simp; done) | (go_simp; rfl)); intro w35 hw; have hg : w32.grownBy w35 (some go22) := (by rw [hw]; exact HP34.2); have hp_ : Kd.R (Kd.int .i64) 3 w35 w.heap.size (fun _ => True) (.slice (some ⟨go22, 0, none⟩) x4_2.length co22) y457 := (by rw [hw, Ny457.out]; exact HP34.1); clear HP34; have n_ := a5 (Kd.R_over' (v := (.slice (some ⟨go22, 0, none⟩) x4_2.length co22)) (rx HO_3.out) (Kd.R_typed HO_4.out) (by decide) hg) hp_ (blk_grown (bx BK444.out) hg (Kd.R_ne HO_4.out BK444.out (by decide))) (blk_grown (bx BK452.out) hg (Kd.R_ne HO_4.out BK452.out (by decide))) (by rw [hw]; exact below_set (HB.out) GB22.out : Below w.heap.size w w35); clear HO_3 HO_4 BK444 BK452 HB; obtain ⟨HO_3, HO_4, BK444, BK452, HB⟩ := n_; clear hg hw hp_; have ⟨_, _, _, _, _, _, _, _⟩ := cf4 BK452))
  go_roundg k2
  case measure => have := HK1.out; have := HK2.out; omega
  case rel => exact ⟨(y456), (y457), ((rd_T98 l0_1 x7_2).f1), (wrap64 (x7_2 + 1)), sr, sr, H', ⟨by have := HK1.out; have := HK2.out; omega⟩, ⟨rx HO_3.out⟩, ⟨rx HO_4.out⟩, xb BK444, ⟨lb⟩⟩
 rw [if_neg c11] at H; have c11b0 := decide_eq_false c11; clear c11
 by_cases c45 : x5_1 < 0
 ·
  rw [if_pos c45] at H; have c45b0 := decide_eq_true c45; clear c45; obtain rfl := Option.some.inj H; have ⟨_, _, _, _⟩ := cf2 BK444
  go_wp2
  go_ret
  exact ⟨_, by first | rfl | (simp [errW_none, errW_some] <;> rfl) | (simp [*, errW_none, errW_some] <;> rfl), by first | exact Kd.R_nil _ _ _ _ _ | exact Kd.N_nil _ _ _ _ _ | exact Kd.V_nil _ _ _ _ _ | exact Kd.Q_nil _ _ _ _ _ | exact Kd.S_nil _ _ _ _ _, lb⟩
 rw [if_neg c45] at H; have c45b0 := decide_eq_false c45; clear c45; have H' := ak H; clear H; have ⟨_, _, _, _⟩ := cf2 BK444
 go_wp2
 go_loopg [5, 9] k1 (fun kq v5 v9 w' => ∃ (x5_2 : Int) (x9_2 : Int), v5 = .int .i64 x5_2 ∧ v9 = .int .i64 x9_2 ∧ Aside0 (compassref11_Below.l2 kq x4_1 x5_2 x9_2 a0_0 l0_1 = some r) ∧ Aside0 (kq ≤ k1) ∧ Aside0 (Kd.R (Kd.int .i64) 3 w' w.heap.size (fun _ => True) v449 x4_1) ∧ Aside0 (w'.heap[gb444]? = some (.cells #[.int .i64 a0_0, (.slice A0_1 l0_1.length c0_1)] 24 (0, 0))) ∧ Aside0 (Below w.heap.size w w'))
 case atStart => exact ⟨(x5_1), (0), sr, sr, H', ⟨Nat.le_refl _⟩, ⟨rx HO_4.out⟩, xb BK444, ⟨lb⟩⟩
 clear H'; obtain ⟨x5_2, x9_2, rfl, rfl, HA, HK2, HO_4, BK444, HB⟩ := hrel
 cases gk with
 | zero => exact absurd HA.out (by simp [compassref11_Below.l2])
 | succ k2 => ?_
 have H := HA.out; clear HA
 simp only [compassref11_Below.l2] at H
 by_cases c48 : x9_2 < a0_0
 ·
  rw [if_pos c48] at H; have c48b0 := decide_eq_true c48; clear c48; replace H := if3 H; obtain ⟨c49b0, c50b0, c51b0, H⟩ := H; replace H := ifd H; obtain ⟨c52b0, H⟩ := H; have H' := ak H; clear H; have ⟨_, _, _, _⟩ := cf2 BK444
  try go_wp2
  have n_ := a3 (Kd.R_drew HO_4.out) (blk_drew BK444.out) (below_drew1 HB.out); clear HO_4 BK444 HB; obtain ⟨HO_4, BK444, HB⟩ := n_; obtain ⟨Ao55, co55, eo55⟩ := Kd.R_slice HO_4.out
  (first | subst eo55 | (injection eo55 with f1_ f2_ f3_; have f4_ := f1_.symm; have f5_ := f3_.symm; clear f1_ f2_ f3_; subst f4_; subst f5_))
  obtain ⟨p458, q458, ad458, e458, hx458_0⟩ := wq (Kd.at_int (Kd.R_reads' HO_4.out).2.2 x5_2); cases e458; obtain ⟨p459, q459, ad459, e459, hx459_0, hx459_1, hx459_2, hx459_3⟩ := wq (at_T98 HR0_1.out (rd x4_1 x5_2)); have hw459_3 := hx459_3; have hw459_2 := hx459_2; have hw459_1 := hx459_1; have hw459_0 := hx459_0; cases e459
  (try replace hx459_0 := hbc HB hx459_0)
  (try replace hx459_1 := hbc HB hx459_1)
  (try replace hx459_2 := hbc HB hx459_2)
  (try replace hx459_3 := hbc HB hx459_3)
  refine stC 10 [] (cX (bc0 BK444) (cX (bc1 BK444) (cX hx458_0 (cX (hbc HB hw459_0) (cX (hbc HB hw459_1) (cX (hbc HB hw459_2) (cY (hbc HB hw459_3)))))))) compassref11_Below.tab21 compassref11_Below.bits21 fun hHeld HT_ HW_ => ?_
  generalize wr.drew = w54 at HO_4 BK444 HB hx458_0 hx459_0 hx459_1 hx459_2 hx459_3 hHeld ⊢
  refine pv HT_ 0 76 ?_; refine pv HT_ 2 78 ?_; refine pv HT_ 3 79 ?_; refine pv HT_ 4 80 ?_; refine tv HT_ HW_ hHeld 1 77 ?_; refine tv HT_ HW_ hHeld 5 81 ?_; refine pv HT_ 6 82 ?_; refine pv HT_ 7 83 ?_; refine tv HT_ HW_ hHeld 8 84 ?_; refine pv HT_ 9 5 ?_
  refine done_ (done_of HT_.out (by kernel_rfl)) ?_
  try go_wp2
  go_roundg k2
  case measure => have := HK1.out; have := HK2.out; omega
  case rel => exact ⟨((rd_T98 l0_1 (rd x4_1 x5_2)).f0), (wrap64 (x9_2 + 1)), sr, sr, H', ⟨by have := HK1.out; have := HK2.out; omega⟩, ⟨rx HO_4.out⟩, xb BK444, ⟨lb⟩⟩
 rw [if_neg c48] at H; have c48b0 := decide_eq_false c48; clear c48; replace H := if2 H; obtain ⟨c56b0, c57b0, H⟩ := H; obtain ⟨y461, hy461⟩ : ∃ y_ : List Int, y_ = (([rd x4_1 x5_2] : List Int)) := ⟨_, rfl⟩; replace H : (compassref11_Below.l3 k2 x4_1 x5_2 y461 a0_0 l0_1) = some r := by first | (rw [hy461]; exact H) | exact H
 have Ny461 := ak hy461; clear hy461; have H' := ak H; clear H; have ⟨_, _, _, _⟩ := cf2 BK444; obtain ⟨Ao59, co59, eo59⟩ := Kd.R_slice HO_4.out; subst eo59; obtain ⟨p460, q460, ad460, e460, hx460_0⟩ := wq (Kd.at_int (Kd.R_reads' HO_4.out).2.2 x5_2); cases e460
 go_wp2_with (first | ((with_reducible refine gate_dst (N := 89) rfl ?_); refine Kd.R_lit (Kd.int .i64) _ 3 ?hg (N := 89) ?hd (xs := ([rd x4_1 x5_2] : List Int)) (inner := [.int .i64 (rd x4_1 x5_2)]) (ok := fun _ => True) (okp := fun _ => True) ?hr ?hp (fun _ hk => hk) trivial (Below.refl _ _) (Nat.le_refl _) (by simp) ?_; (case hd => rfl); (case hg => rfl); (case hr => first | (go_simp; done) | (go_simp; rfl)); (case hp => exact (Reps.one (show Kd.M (Kd.int .i64) _ _ _ (rd x4_1 x5_2) [.int .i64 (rd x4_1 x5_2)] from rfl) (Reps.none _ _))); intro v462 w60 ho61 hb hg_ hnew_; clear hg_ hnew_; (first | rw [← Ny461.out] at ho61 | (simp only [Int.reduceToNat] at ho61; rw [← Ny461.out] at ho61)); have n_ := a4 (Kd.R_elder' (rx HO_4.out) (Kd.R_base ho61) hb) (Kd.R_lower (Kd.R_new' ho61 (Kd.R_lt (rx HO_4.out))) (below_size lb)) (bo BK444 hb) (bl hb); clear HO_4 BK444 HB; obtain ⟨HO_4, HO463, BK444, HB⟩ := n_; clear hb ho61))
 go_loopg [10] k2 (fun kq v10 w' => ∃ (x10_3 : List Int), Aside0 (compassref11_Below.l3 kq x4_1 x5_2 x10_3 a0_0 l0_1 = some r) ∧ Aside0 (kq ≤ k2) ∧ Aside0 (Kd.R (Kd.int .i64) 3 w' w.heap.size (fun k_ => some k_ ≠ (v10 : Value).ownBlock) (.slice (some ad460) x4_1.length co59) x4_1) ∧ Aside0 (Kd.R (Kd.int .i64) 3 w' w.heap.size (fun k_ => some k_ ≠ ((.slice (some ad460) x4_1.length co59) : Value).ownBlock) v10 x10_3) ∧ Aside0 (w'.heap[gb444]? = some (.cells #[.int .i64 a0_0, (.slice A0_1 l0_1.length c0_1)] 24 (0, 0))) ∧ Aside0 (Below w.heap.size w w'))
 case atStart => exact ⟨(y461), H', ⟨Nat.le_refl _⟩, ⟨by exact rx (Kd.R_mono HO_4.out (fun _ hk => hk.2))⟩, ⟨by exact rx (Kd.R_mono HO463.out (fun _ hk => hk.2))⟩, xb BK444, ⟨lb⟩⟩
 clear H'; obtain ⟨x10_3, HA, HK3, HO_4, HO_10, BK444, HB⟩ := hrel
 cases gk with
 | zero => exact absurd HA.out (by simp [compassref11_Below.l3])
 | succ k3 => ?_
 have H := HA.out; clear HA
 simp only [compassref11_Below.l3] at H
 replace H := ifn H; obtain ⟨c62, H⟩ := H; have c62b0 := decide_eq_true c62
 have c62b1 : decide (0 < x10_3.length) = true := decide_eq_true (by omega)
 clear c62; replace H := if2 H; obtain ⟨c63b0, c64b0, H⟩ := H
 by_cases c65 : ((rd_T98 l0_1 (rd x10_3 0)).f0) = x5_2
 ·
  rw [if_pos c65] at H; have c65b := be2 c65; clear c65; obtain rfl := Option.some.inj H
  try go_wp2
  have n_ := a4 (Kd.R_drew HO_4.out) (Kd.R_drew HO_10.out) (blk_drew BK444.out) (below_drew1 HB.out); clear HO_4 HO_10 BK444 HB; obtain ⟨HO_4, HO_10, BK444, HB⟩ := n_; obtain ⟨Ao67, co67, eo67⟩ := Kd.R_slice HO_10.out
  (first | subst eo67 | (injection eo67 with f1_ f2_ f3_; have f4_ := f1_.symm; have f5_ := f3_.symm; clear f1_ f2_ f3_; subst f4_; subst f5_))
  have p464 : 0 ≤ (0 : Int) := (by omega)
  have q464 : 0 < (x10_3.length : Int) := oda; obtain ⟨ad464, e464, hx464_0⟩ := Kd.at_int (Kd.R_reads' HO_10.out).2.2 0 p464 q464; cases e464
  have qi464 : (0 < x10_3.length) = True := eq_true (by omega)
  (try rw [show ((0 : Int)).toNat = 0 from rfl] at hx464_0)
  (try rw [Addr.add_zero'] at hx464_0)
  replace p464 := eq_true p464; replace q464 := eq_true q464; obtain ⟨p465, q465, ad465, e465, hx465_0, hx465_1, hx465_2, hx465_3⟩ := wq (at_T98 HR0_1.out (rd x10_3 0)); have hw465_3 := hx465_3; have hw465_2 := hx465_2; have hw465_1 := hx465_1; have hw465_0 := hx465_0; cases e465
  (try replace hx465_0 := hbc HB hx465_0)
  (try replace hx465_1 := hbc HB hx465_1)
  (try replace hx465_2 := hbc HB hx465_2)
  (try replace hx465_3 := hbc HB hx465_3)
  refine stC 10 [] (cX (bc0 BK444) (cX (bc1 BK444) (cX hx464_0 (cX (hbc HB hw465_0) (cX (hbc HB hw465_1) (cX (hbc HB hw465_2) (cY (hbc HB hw465_3)))))))) compassref11_Below.tab23 compassref11_Below.bits23 fun hHeld HT_ HW_ => ?_
  generalize wr.drew = w66 at HO_4 HO_10 BK444 HB hx464_0 hx465_0 hx465_1 hx465_2 hx465_3 hHeld ⊢
  refine pv HT_ 0 90 ?_; refine pv HT_ 2 92 ?_; refine pv HT_ 3 93 ?_; refine pv HT_ 8 98 ?_; refine tv HT_ HW_ hHeld 1 91 ?_; refine tv HT_ HW_ hHeld 4 94 ?_; refine pv HT_ 5 95 ?_; refine pv HT_ 6 96 ?_; refine tv HT_ HW_ hHeld 7 97 ?_; refine pv HT_ 9 99 ?_
  refine done_ (done_of HT_.out (by kernel_rfl)) ?_
  try go_wp2
  go_ret
  exact ⟨_, by first | rfl | (simp [errW_none, errW_some] <;> rfl) | (simp [*, errW_none, errW_some] <;> rfl), by exact rx (Kd.R_mono HO_10.out (fun _ hk => trivial)), lb⟩
 rw [if_neg c65] at H; have c65b := bn2 c65; replace H := if2 H; obtain ⟨c68b0, c69b0, H⟩ := H; obtain ⟨y469, hy469⟩ : ∃ y_ : List Int, y_ = (([rd x4_1 ((rd_T98 l0_1 (rd x10_3 0)).f0)] : List Int)) := ⟨_, rfl⟩; replace H : (if y469.length + x10_3.length < 17592186044416 then (compassref11_Below.l3 k3 x4_1 x5_2 (y469 ++ x10_3) a0_0 l0_1) else (none)) = some r := by first | (rw [hy469]; exact H) | exact H
 have Ny469 := ak hy469; clear hy469; replace H := ifn H; obtain ⟨c70, H⟩ := H; have LMc70 := ak c70; clear c70; obtain ⟨y472, hy472⟩ : ∃ y_ : List Int, y_ = (y469 ++ x10_3) := ⟨_, rfl⟩; replace H : (compassref11_Below.l3 k3 x4_1 x5_2 y472 a0_0 l0_1) = some r := by first | (rw [hy472]; exact H) | exact H
 have Ny472 := ak hy472; clear hy472; have H' := ak H; clear H
 try go_wp2
 have n_ := a4 (Kd.R_drew HO_4.out) (Kd.R_drew HO_10.out) (blk_drew BK444.out) (below_drew1 HB.out); clear HO_4 HO_10 BK444 HB; obtain ⟨HO_4, HO_10, BK444, HB⟩ := n_; obtain ⟨Ao72, co72, eo72⟩ := Kd.R_slice HO_10.out
 (first | subst eo72 | (injection eo72 with f1_ f2_ f3_; have f4_ := f1_.symm; have f5_ := f3_.symm; clear f1_ f2_ f3_; subst f4_; subst f5_))
 have p464 : 0 ≤ (0 : Int) := (by omega)
 have q464 : 0 < (x10_3.length : Int) := oda; obtain ⟨ad464, e464, hx464_0⟩ := Kd.at_int (Kd.R_reads' HO_10.out).2.2 0 p464 q464; cases e464
 have qi464 : (0 < x10_3.length) = True := eq_true (by omega)
 (try rw [show ((0 : Int)).toNat = 0 from rfl] at hx464_0)
 (try rw [Addr.add_zero'] at hx464_0)
 replace p464 := eq_true p464; replace q464 := eq_true q464; obtain ⟨p465, q465, ad465, e465, hx465_0, hx465_1, hx465_2, hx465_3⟩ := wq (at_T98 HR0_1.out (rd x10_3 0)); have hw465_3 := hx465_3; have hw465_2 := hx465_2; have hw465_1 := hx465_1; have hw465_0 := hx465_0; cases e465
 (try replace hx465_0 := hbc HB hx465_0)
 (try replace hx465_1 := hbc HB hx465_1)
 (try replace hx465_2 := hbc HB hx465_2)
 (try replace hx465_3 := hbc HB hx465_3)
 refine stC 10 [] (cX (bc0 BK444) (cX (bc1 BK444) (cX hx464_0 (cX (hbc HB hw465_0) (cX (hbc HB hw465_1) (cX (hbc HB hw465_2) (cY (hbc HB hw465_3)))))))) compassref11_Below.tab23 compassref11_Below.bits23 fun hHeld HT_ HW_ => ?_
 generalize wr.drew = w71 at HO_4 HO_10 BK444 HB hx464_0 hx465_0 hx465_1 hx465_2 hx465_3 hHeld ⊢
 refine pv HT_ 0 90 ?_; refine pv HT_ 2 92 ?_; refine pv HT_ 3 93 ?_; refine pv HT_ 8 98 ?_; refine tv HT_ HW_ hHeld 1 91 ?_; refine tv HT_ HW_ hHeld 4 94 ?_; refine pv HT_ 5 95 ?_; refine pv HT_ 6 96 ?_; refine tv HT_ HW_ hHeld 7 97 ?_; refine pv HT_ 9 99 ?_
 refine done_ (done_of HT_.out (by kernel_rfl)) ?_
 try go_wp2
 have n_ := a4 (Kd.R_drew HO_4.out) (Kd.R_drew HO_10.out) (blk_drew BK444.out) (below_drew1 HB.out); clear HO_4 HO_10 BK444 HB; obtain ⟨HO_4, HO_10, BK444, HB⟩ := n_
 have p466 : 0 ≤ (0 : Int) := (by omega)
 have q466 : 0 < (x10_3.length : Int) := oda; obtain ⟨ad466, e466, hx466_0⟩ := Kd.at_int (Kd.R_reads' HO_10.out).2.2 0 p466 q466
 obtain rfl : ad464 = ad466 := (by injection e466)
 have qi466 : (0 < x10_3.length) = True := eq_true (by omega)
 (try rw [show ((0 : Int)).toNat = 0 from rfl] at hx466_0)
 (try rw [Addr.add_zero'] at hx466_0)
 replace p466 := eq_true p466; replace q466 := eq_true q466; obtain ⟨p467, q467, ad467, e467, hx467_0, hx467_1, hx467_2, hx467_3⟩ := wq (at_T98 HR0_1.out (rd x10_3 0)); have hw467_3 := hx467_3; have hw467_2 := hx467_2; have hw467_1 := hx467_1; have hw467_0 := hx467_0
 obtain rfl : ad465 = ad467 := (by injection e467)
 (try replace hx467_0 := hbc HB hx467_0)
 (try replace hx467_1 := hbc HB hx467_1)
 (try replace hx467_2 := hbc HB hx467_2)
 (try replace hx467_3 := hbc HB hx467_3); obtain ⟨p468, q468, ad468, e468, hx468_0⟩ := wq (Kd.at_int (Kd.R_reads' HO_4.out).2.2 ((rd_T98 l0_1 (rd x10_3 0)).f0))
 obtain rfl : ad460 = ad468 := (by injection e468)
 refine stC 15 [13] (cX (bc0 BK444) (cX (bc1 BK444) (cX hx466_0 (cX (hbc HB hw467_0) (cX (hbc HB hw467_1) (cX (hbc HB hw467_2) (cX (hbc HB hw467_3) (cY hx468_0)))))))) compassref11_Below.tab24 compassref11_Below.bits24 fun hHeld HT_ HW_ => ?_
 generalize w71.drew = w73 at HO_4 HO_10 BK444 HB hx466_0 hx467_0 hx467_1 hx467_2 hx467_3 hx468_0 hHeld ⊢
 refine pv HT_ 0 100 ?_; refine pv HT_ 1 101 ?_; refine pv HT_ 3 103 ?_; refine pv HT_ 4 104 ?_; refine pv HT_ 12 112 ?_; refine tv HT_ HW_ hHeld 2 102 ?_; refine tv HT_ HW_ hHeld 5 105 ?_; refine pv HT_ 6 106 ?_; refine pv HT_ 7 107 ?_; refine tv HT_ HW_ hHeld 8 108 ?_; refine pv HT_ 9 109 ?_; refine tv HT_ HW_ hHeld 10 110 ?_
 refine one_ (i := 11) (N := some 111) #[T, T, T, T, T, T, T, T, T, T, T, T, T, F, F] rfl rfl (one_of HT_.out (by kernel_rfl)) (by decide) (fun K hK => ?_)
 refine Kd.R_lit_step (Kd.int .i64) _ 3 ?hg (N := 111) ?hd (xs := ([rd x4_1 ((rd_T98 l0_1 (rd x10_3 0)).f0)] : List Int)) (inner := [.int .i64 (rd x4_1 ((rd_T98 l0_1 (rd x10_3 0)).f0))]) (ok := fun _ => True) (okp := fun _ => True) ?hr ?hp (fun _ hk => hk) trivial (Below.refl _ _) (Nat.le_refl _) (by simp) ?_; (case hd => rfl); (case hg => rfl); (case hr => first | (go_simp; done) | (go_simp; rfl)); (case hp => exact (Reps.one (show Kd.M (Kd.int .i64) _ _ _ (rd x4_1 ((rd_T98 l0_1 (rd x10_3 0)).f0)) [.int .i64 (rd x4_1 ((rd_T98 l0_1 (rd x10_3 0)).f0))] from rfl) (Reps.none _ _)))
 intro v470 w74 ho75 hb hg_ hnew_; have HS2_ := (hb.cell (World.block_lt_of_cell? _ _ (hHeld.2.2.1))).trans (hHeld.2.2.1); have HS7_ := (hb.cell (World.block_lt_of_cell? _ _ (hHeld.2.2.2.2.2.2.2))).trans (hHeld.2.2.2.2.2.2.2); clear hg_ hnew_
 (first | rw [← Ny469.out] at ho75 | (simp only [Int.reduceToNat] at ho75; rw [← Ny469.out] at ho75))
 have n_ := a5 (Kd.R_elder' (rx HO_4.out) (Kd.R_base ho75) hb) (Kd.R_elder' (rx HO_10.out) (Kd.R_base ho75) hb) (Kd.R_lower (Kd.R_new' (Kd.R_new' ho75 (Kd.R_lt (rx HO_4.out))) (Kd.R_lt (rx HO_10.out))) (below_size lb)) (bo BK444 hb) (bl hb); clear HO_4 HO_10 BK444 HB; obtain ⟨HO_4, HO_10, HO471, BK444, HB⟩ := n_; clear hb ho75
 refine hK.out _ _ ⟨(blk_cell BK444.out 0).trans rfl, (blk_cell BK444.out 1).trans rfl, HS2_, (hbc HB hw467_0), (hbc HB hw467_1), (hbc HB hw467_2), (hbc HB hw467_3), HS7_⟩ (fun hHeld => ?_)
 clear hK K
 refine norm_ (a' := ?_) ?_ ?_
 rotate_left
 ·
  show Act.put _ (some 111) _ = _
  simp only [Act.put, sA, sZ, sS, i64_w, i32_w]
  rfl
 refine last_ (i := 13) (N := some 113) #[T, T, T, T, T, T, T, T, T, T, T, T, T, T, F] rfl rfl (one_of HT_.out (by kernel_rfl)) (by decide) (fun K hK => ?_)
 refine Kd.R_append_rows_step (Kd.int .i64) (w0 := w) w.heap.size (by rfl) (.tmp 111) (.tmp 112) 70 3 (.int .i64 0) 8 rfl Try.underlying70 info3 rfl (by decide) (by omega) v470 y469 x10_3 _ _ _ (fun k_ => some k_ ≠ (.slice (some ad460) x4_1.length co59 : Value).ownBlock ∧ some k_ ≠ (.slice (some ad464) x10_3.length co72 : Value).ownBlock) (fun _ => False) rfl rfl ?aO ?aR (fun _ _ h => h) (fun _ h => h.elim) ?aF ?aB ?aS ?aL ?_
 (case aR => repeat (first | exact (Kd.R_reads' HO_10.out).2.2 | (with_reducible refine Kd.C_alloc ?_ _) | (with_reducible refine Kd.C_drewN ?_ _) | (with_reducible refine Kd.C_drew ?_)))
 (case aB => exact lb)
 (case aF => exact (fun k_ hk => ⟨Kd.fresh' (Kd.R_lt (rx HO_4.out)) k_ hk, Kd.fresh' (Kd.R_lt (rx HO_10.out)) k_ hk⟩))
 (case aO => exact (by exact rx (Kd.R_mono HO471.out (fun _ hk => ⟨hk.1.2, hk.2⟩))))
 (case aS => exact (below_size lb))
 (case aL => have := LMc70.out; omega)
 intro v473 w76 ho hb hg hat; rw [← Ny472.out] at ho
 have n_ := a5 (Kd.R_after (ok := (fun k_ => some k_ ≠ (.slice (some ad464) x10_3.length co72 : Value).ownBlock)) (rx HO_4.out) hg hat) (Kd.R_after (ok := (fun k_ => some k_ ≠ (.slice (some ad460) x4_1.length co59 : Value).ownBlock)) (rx HO_10.out) hg hat) (blk_grown (bx BK444.out) hg (Kd.R_ne HO471.out BK444.out (by decide))) hb ho; clear HO_4 HO_10 BK444 HB HO471; obtain ⟨HO_4, HO_10, BK444, HB, HO474⟩ := n_
 clear ho hb hg hat
 refine hK.out _ _ ?_
 clear hK K
 refine norm_ (a' := ?_) ?_ ?_
 rotate_left
 ·
  show Act.put _ (some 113) _ = _
  simp only [Act.put, sA, sZ, sS, i64_w, i32_w]
  rfl
 refine pv HT_ 14 10 ?_
 refine done_ (done_of HT_.out (by kernel_rfl)) ?_
 try go_wp2
 go_roundg k3
 case measure => have := HK1.out; have := HK2.out; have := HK3.out; omega
 case rel => exact ⟨(y472), H', ⟨by have := HK1.out; have := HK2.out; have := HK3.out; omega⟩, ⟨by exact rx (Kd.R_mono HO_4.out (fun _ hk => hk.2))⟩, ⟨by exact rx (Kd.R_mono HO474.out (fun _ hk => hk.1))⟩, xb BK444, ⟨lb⟩⟩
end Go.Proofs.Ytkdoihcjhccliaa.Q
