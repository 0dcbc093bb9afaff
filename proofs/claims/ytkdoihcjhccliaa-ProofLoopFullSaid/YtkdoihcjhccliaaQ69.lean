import Derived.Test.YtkdoihcjhccliaaV4
import Derived.Test.YtkdoihcjhccliaaQ0
import Derived.Test.YtkdoihcjhccliaaQ3
import Derived.Test.YtkdoihcjhccliaaQ34
import Derived.Test.YtkdoihcjhccliaaQ66
import Derived.Test.YtkdoihcjhccliaaQ68
namespace Go.Proofs.Ytkdoihcjhccliaa.Q
open Go.RowKit Go.Proofs.YtkdoihcjhccliaaW.PrintWords Go.Proofs.YtkdoihcjhccliaaW.PrintLast Go.Proofs.YtkdoihcjhccliaaW.PrintMore
attribute [local go_sem] max2_int min2_int max_two min_two max_three min_three max_four min_four   -- for this text's walks alone
set_option linter.unusedVariables false
set_option linter.unusedSimpArgs false

/-! ### compassref11_LeastMean: function 43 -/
mutual
def compassref11_LeastMean.l0 : Nat → Int → Int → Int → List (S98) → Option (List Int × List Int)
  | 0, _, _, _, _ => none
  | k + 1, x4, x5, x492000, x492001 => if x5 < (x492001.length : Int) then (if 0 ≤ x5 then (if ((rd_T98 x492001 x5).f3) ≥ x4 then (compassref11_LeastMean.l0 k (wrap64 (((rd_T98 x492001 x5).f3) + 1)) (wrap64 (x5 + 1)) x492000 x492001) else (compassref11_LeastMean.l0 k x4 (wrap64 (x5 + 1)) x492000 x492001)) else (none)) else ((compassref11_scaled.f k x492000 x492001 x4 1).bind fun bt494 => ((compassref11_Below.f k bt494.1 bt494.2).bind fun t498 => (if (t498.length : Int) = 0 then (some (([] : List Int), ([] : List Int))) else (compassref11_LeastMean.l1 k t498 x492000 x492001))))
def compassref11_LeastMean.l1 : Nat → List Int → Int → List (S98) → Option (List Int × List Int)
  | 0, _, _, _ => none
  | k + 1, x6, x492000, x492001 => (compassref08_Cost.f k x492000 x492001 x6).bind fun t501 => ((compassref11_scaled.f k x492000 x492001 t501 (x6.length : Int)).bind fun bt502 => ((compassref11_Below.f k bt502.1 bt502.2).bind fun t507 => (if (t507.length : Int) = 0 then (if 0 ≤ x492000 then (if (x492000 : Int).toNat ≤ 35184372088832 then (compassref11_LeastMean.l2 k x6 (List.replicate (x492000 : Int).toNat 0) 0 x492000 x492001 bt502.1 bt502.2) else (none)) else (none)) else (compassref11_LeastMean.l1 k t507 x492000 x492001))))
def compassref11_LeastMean.l2 : Nat → List Int → List Int → Int → Int → List (S98) → Int → List (S98) → Option (List Int × List Int)
  | 0, _, _, _, _, _, _, _ => none
  | k + 1, x6, x9, x10, x492000, x492001, x507000, x507001 => if x10 < x492000 then (compassref11_LeastMean.l3 k x6 x9 x10 0 x492000 x492001 x507000 x507001) else (some (x6, x9))
def compassref11_LeastMean.l3 : Nat → List Int → List Int → Int → Int → Int → List (S98) → Int → List (S98) → Option (List Int × List Int)
  | 0, _, _, _, _, _, _, _, _ => none
  | k + 1, x6, x9, x10, x11, x492000, x492001, x507000, x507001 => if x11 < (x507001.length : Int) then (if 0 ≤ x11 then (if 0 ≤ ((rd_T98 x507001 x11).f0) then (if ((rd_T98 x507001 x11).f0) < (x9.length : Int) then (if 0 ≤ ((rd_T98 x507001 x11).f1) then (if ((rd_T98 x507001 x11).f1) < (x9.length : Int) then (if (wrap64 ((rd x9 ((rd_T98 x507001 x11).f0)) + ((rd_T98 x507001 x11).f3))) < (rd x9 ((rd_T98 x507001 x11).f1)) then (compassref11_LeastMean.l3 k x6 (x9.set (((rd_T98 x507001 x11).f1) : Int).toNat (wrap64 ((rd x9 ((rd_T98 x507001 x11).f0)) + ((rd_T98 x507001 x11).f3)))) x10 (wrap64 (x11 + 1)) x492000 x492001 x507000 x507001) else (compassref11_LeastMean.l3 k x6 x9 x10 (wrap64 (x11 + 1)) x492000 x492001 x507000 x507001)) else (none)) else (none)) else (none)) else (none)) else (none)) else (compassref11_LeastMean.l2 k x6 x9 (wrap64 (x10 + 1)) x492000 x492001 x507000 x507001)
end
def compassref11_LeastMean.f (k : Nat) (a0_0 : Int) (l0_1 : List (S98)) : Option (List Int × List Int) := compassref11_LeastMean.l0 k 1 0 a0_0 l0_1
def compassref11_LeastMean.T10 : Bool × List (List Nat × List Nat) := (true, [([], []), ([], []), ([], []), ([1, 2], [1, 2]), ([], []), ([4], [4]), ([0, 3, 5, 3], [0, 3, 5]), ([], []), ([7, 6, 6, 0, 1, 2, 3, 4, 5, 6, 7], [6, 7])])
def compassref11_LeastMean.B10 : List Nat := [0, 0, 0, 6, 0, 16, 63, 0, 255]
theorem compassref11_LeastMean.tab10 : rtab .any (opsOf Try.f43 10) = compassref11_LeastMean.T10 := by kernel_rfl
theorem compassref11_LeastMean.bits10 : waitsOk compassref11_LeastMean.T10.2 compassref11_LeastMean.B10 = true := by kernel_rfl
def compassref11_LeastMean.T21 : Bool × List (List Nat × List Nat) := (true, [([], []), ([], []), ([1], [1]), ([0, 2], [0, 2]), ([3], [3]), ([], []), ([5], [5]), ([4, 6], [4, 6]), ([], []), ([], []), ([9], [9]), ([8, 10], [8, 10]), ([11], [11]), ([7, 12], [7, 12])])
def compassref11_LeastMean.B21 : List Nat := [0, 0, 2, 7, 15, 0, 32, 127, 0, 0, 512, 1792, 3840, 8191]
theorem compassref11_LeastMean.tab21 : rtab .any (opsOf Try.f43 21) = compassref11_LeastMean.T21 := by kernel_rfl
theorem compassref11_LeastMean.bits21 : waitsOk compassref11_LeastMean.T21.2 compassref11_LeastMean.B21 = true := by kernel_rfl
def compassref11_LeastMean.T22 : Bool × List (List Nat × List Nat) := (true, [([], []), ([], []), ([1], [1]), ([], []), ([], []), ([4], [4]), ([3, 5], [3, 5]), ([6], [6]), ([], []), ([8], [8]), ([7, 9], [7, 9]), ([0, 2, 0, 1, 2, 3, 4, 5, 6, 7, 8, 9, 10], [0, 2]), ([11, 10, 0, 1, 2, 3, 4, 5, 6, 7, 8, 9, 10], [10, 11])])
def compassref11_LeastMean.B22 : List Nat := [0, 0, 2, 0, 0, 16, 56, 120, 0, 256, 1016, 2047, 4095]
theorem compassref11_LeastMean.tab22 : rtab .any (opsOf Try.f43 22) = compassref11_LeastMean.T22 := by kernel_rfl
theorem compassref11_LeastMean.bits22 : waitsOk compassref11_LeastMean.T22.2 compassref11_LeastMean.B22 = true := by kernel_rfl
set_option maxHeartbeats 8000000 in
set_option maxRecDepth 100000 in
theorem compassref11_LeastMean.calls (k : Nat) (a0_0 : Int) (A0_1 : Option Addr) (c0_1 : Nat) (l0_1 : List (S98)) (r1 : List Int) (r2 : List Int) (w : World) (hr0_1 : Kd.C k98 w A0_1 l0_1.length l0_1) (hc0_1 : l0_1.length ≤ c0_1) (h : compassref11_LeastMean.f k a0_0 l0_1 = some (r1, r2)) :
    Calls Try.prog 43 #[.agg #[.int .i64 a0_0, .slice A0_1 l0_1.length c0_1]] w fun e w' => ∃ v0_ v1_ : Value, e = .returned (.tuple #[v0_, v1_]) ∧ Kd.R (Kd.int .i64) 3 w' w.heap.size (fun _ => True) v0_ r1 ∧ Kd.R (Kd.int .i64) 2 w' w.heap.size (fun _ => True) v1_ r2 ∧ Below w.heap.size w w' := by
 have hu24 := Try.underlying24; have hu98 := Try.underlying98; have HR0_1 := ak hr0_1; have HC0_1 := ak hc0_1; clear hr0_1 hc0_1; have HB := ak (Below.refl w.heap.size w); have H : (compassref11_LeastMean.l0 k 1 0 a0_0 l0_1) = some (r1, r2) := h; clear h; have H' := ak H; clear H
 go_enter Try.func43, Try.ntmps43
 go_wp2_with (first | ((with_reducible refine gate_dst (N := 1) rfl ?_); refine bxe 1 #[.int .i64 a0_0, .slice A0_1 l0_1.length c0_1] 24 ?_; intro gb491 hg w2 hbox hb; have n_ := a4 (bl hb) hbox (gw w hg) (gw w hg); clear HB; obtain ⟨HB, BK491, GW491, GE491⟩ := n_; clear hb hbox hg))
 go_loopg [4, 5] k (fun kq v4 v5 w' => ∃ (x4_1 : Int) (x5_1 : Int), v4 = .int .i64 x4_1 ∧ v5 = .int .i64 x5_1 ∧ Aside0 (compassref11_LeastMean.l0 kq x4_1 x5_1 a0_0 l0_1 = some (r1, r2)) ∧ Aside0 (kq ≤ k) ∧ Aside0 (w'.heap[gb491]? = some (.cells #[.int .i64 a0_0, (.slice A0_1 l0_1.length c0_1)] 24 (0, 0))) ∧ Aside0 (Below w.heap.size w w'))
 case atStart => exact ⟨(1), (0), sr, sr, H', ⟨Nat.le_refl _⟩, xb BK491, ⟨lb⟩⟩
 clear H'; obtain ⟨x4_1, x5_1, rfl, rfl, HA, HK1, BK491, HB⟩ := hrel
 cases gk with
 | zero => exact absurd HA.out (by simp [compassref11_LeastMean.l0])
 | succ k1 => ?_
 have H := HA.out; clear HA
 simp only [compassref11_LeastMean.l0] at H
 by_cases c3 : x5_1 < (l0_1.length : Int)
 ·
  rw [if_pos c3] at H; have c3b0 := decide_eq_true c3; clear c3; replace H := ifd H; obtain ⟨c4b0, H⟩ := H
  by_cases c5 : ((rd_T98 l0_1 x5_1).f3) ≥ x4_1
  rotate_left
  ·
   rw [if_neg c5] at H; have c5b0 := decide_eq_false c5; clear c5; have H' := ak H; clear H; have ⟨_, _, _, _⟩ := cf2 BK491; obtain ⟨p492, q492, ad492, e492, hx492_0, hx492_1, hx492_2, hx492_3⟩ := wq (at_T98 HR0_1.out x5_1); cases e492
   (try replace hx492_0 := hbc HB hx492_0)
   (try replace hx492_1 := hbc HB hx492_1)
   (try replace hx492_2 := hbc HB hx492_2)
   (try replace hx492_3 := hbc HB hx492_3)
   go_wp2
   go_roundg k1
   case measure => have := HK1.out; omega
   case rel => exact ⟨(x4_1), (wrap64 (x5_1 + 1)), sr, sr, H', ⟨by have := HK1.out; omega⟩, xb BK491, ⟨lb⟩⟩
  rw [if_pos c5] at H; have c5b0 := decide_eq_true c5; clear c5; have H' := ak H; clear H; have ⟨_, _, _, _⟩ := cf2 BK491; obtain ⟨p492, q492, ad492, e492, hx492_0, hx492_1, hx492_2, hx492_3⟩ := wq (at_T98 HR0_1.out x5_1); cases e492
  (try replace hx492_0 := hbc HB hx492_0)
  (try replace hx492_1 := hbc HB hx492_1)
  (try replace hx492_2 := hbc HB hx492_2)
  (try replace hx492_3 := hbc HB hx492_3); obtain ⟨p493, q493, ad493, e493, hx493_0, hx493_1, hx493_2, hx493_3⟩ := wq (at_T98 HR0_1.out x5_1)
  obtain rfl : ad492 = ad493 := (by injection e493)
  (try replace hx493_0 := hbc HB hx493_0)
  (try replace hx493_1 := hbc HB hx493_1)
  (try replace hx493_2 := hbc HB hx493_2)
  (try replace hx493_3 := hbc HB hx493_3)
  go_wp2
  go_roundg k1
  case measure => have := HK1.out; omega
  case rel => exact ⟨(wrap64 (((rd_T98 l0_1 x5_1).f3) + 1)), (wrap64 (x5_1 + 1)), sr, sr, H', ⟨by have := HK1.out; omega⟩, xb BK491, ⟨lb⟩⟩
 rw [if_neg c3] at H; have c3b0 := decide_eq_false c3; clear c3; replace H := Option.bind_eq_some_iff.mp H; obtain ⟨⟨t494, t495⟩, A80, H⟩ := H; dsimp only at H; have A8 := ak A80; clear A80; replace H := Option.bind_eq_some_iff.mp H; obtain ⟨t498, A90, H⟩ := H; have A9 := ak A90; clear A90
 by_cases c10 : (t498.length : Int) = 0
 ·
  rw [if_pos c10] at H; have c10b := be2 c10; clear c10
  simp only [Option.some.injEq, Prod.mk.injEq] at H
  obtain ⟨rfl, rfl⟩ := H; have ⟨_, _, _, _⟩ := cf2 BK491
  go_wp2_with (first | ((with_reducible refine gate_callee (f := 82) rfl ?_); refine gl 37 Try.func82 #[.agg #[.int .i64 a0_0, .slice A0_1 l0_1.length c0_1], .int .i64 x4_1, .int .i64 1] ?_; (with_reducible refine (compassref11_scaled.calls k1 a0_0 _ _ l0_1 x4_1 1 t494 t495 _ (Kd.C_below HR0_1.out lb) HC0_1.out A8.out).mono ?_); rintro e w12 ⟨v496, rfl, ho0, hb⟩; refine ⟨_, rfl, ?_⟩; have n_ := a3 (Kd.R_lower ho0 (below_size lb)) (bo BK491 hb) (bl hb); clear BK491 HB; obtain ⟨HO497, BK491, HB⟩ := n_; clear hb; (try clear ho0); obtain ⟨Ao13, co13, eo13⟩ := Kd.R_slice HO497.out; subst eo13) | ((with_reducible refine gate_callee (f := 72) rfl ?_); refine gl 38 Try.func72 #[.agg #[.int .i64 t494, .slice Ao13 t495.length co13]] ?_; (with_reducible refine (compassref11_Below.calls k1 t494 _ _ t495 t498 _ ?side1 ?side2 A9.out).mono ?_); (case side1 => repeat (first | exact (Kd.R_reads' HO497.out).2.2 | (with_reducible refine Kd.C_alloc ?_ _) | (with_reducible refine Kd.C_drewN ?_ _) | (with_reducible refine Kd.C_drew ?_))); (case side2 => exact (Kd.R_reads' HO497.out).2.1); rintro e w14 ⟨v499, rfl, ho0, hb⟩; refine ⟨_, rfl, ?_⟩; have n_ := a4 (ro HO497 hb) (Kd.R_lower ho0 (below_size lb)) (bo BK491 hb) (bl hb); clear HO497 BK491 HB; obtain ⟨HO497, HO500, BK491, HB⟩ := n_; clear hb; (try clear ho0); obtain ⟨Ao15, co15, eo15⟩ := Kd.R_slice HO500.out; subst eo15))
  go_ret2
  exact ⟨_, _, by first | rfl | (simp [errW_none, errW_some] <;> rfl) | (simp [*, errW_none, errW_some] <;> rfl), by first | exact Kd.R_nil _ _ _ _ _ | exact Kd.N_nil _ _ _ _ _ | exact Kd.V_nil _ _ _ _ _ | exact Kd.Q_nil _ _ _ _ _ | exact Kd.S_nil _ _ _ _ _, by first | exact Kd.R_nil _ _ _ _ _ | exact Kd.N_nil _ _ _ _ _ | exact Kd.V_nil _ _ _ _ _ | exact Kd.Q_nil _ _ _ _ _ | exact Kd.S_nil _ _ _ _ _, lb⟩
 rw [if_neg c10] at H; have c10b := bn2 c10
 have c10b2 : ¬ (t498 = []) := fun h_ => c10 (by rw [h_]; rfl)
 have H' := ak H; clear H; have ⟨_, _, _, _⟩ := cf2 BK491
 go_wp2_with (first | ((with_reducible refine gate_callee (f := 82) rfl ?_); refine gl 37 Try.func82 #[.agg #[.int .i64 a0_0, .slice A0_1 l0_1.length c0_1], .int .i64 x4_1, .int .i64 1] ?_; (with_reducible refine (compassref11_scaled.calls k1 a0_0 _ _ l0_1 x4_1 1 t494 t495 _ (Kd.C_below HR0_1.out lb) HC0_1.out A8.out).mono ?_); rintro e w17 ⟨v496, rfl, ho0, hb⟩; refine ⟨_, rfl, ?_⟩; have n_ := a3 (Kd.R_lower ho0 (below_size lb)) (bo BK491 hb) (bl hb); clear BK491 HB; obtain ⟨HO497, BK491, HB⟩ := n_; clear hb; (try clear ho0); obtain ⟨Ao18, co18, eo18⟩ := Kd.R_slice HO497.out; subst eo18) | ((with_reducible refine gate_callee (f := 72) rfl ?_); refine gl 38 Try.func72 #[.agg #[.int .i64 t494, .slice Ao18 t495.length co18]] ?_; (with_reducible refine (compassref11_Below.calls k1 t494 _ _ t495 t498 _ ?side1 ?side2 A9.out).mono ?_); (case side1 => repeat (first | exact (Kd.R_reads' HO497.out).2.2 | (with_reducible refine Kd.C_alloc ?_ _) | (with_reducible refine Kd.C_drewN ?_ _) | (with_reducible refine Kd.C_drew ?_))); (case side2 => exact (Kd.R_reads' HO497.out).2.1); rintro e w19 ⟨v499, rfl, ho0, hb⟩; refine ⟨_, rfl, ?_⟩; have n_ := a4 (ro HO497 hb) (Kd.R_lower ho0 (below_size lb)) (bo BK491 hb) (bl hb); clear HO497 BK491 HB; obtain ⟨HO497, HO500, BK491, HB⟩ := n_; clear hb; (try clear ho0); obtain ⟨Ao20, co20, eo20⟩ := Kd.R_slice HO500.out; subst eo20))
 go_loopg [6] k1 (fun kq v6 w' => ∃ (x6_2 : List Int), Aside0 (compassref11_LeastMean.l1 kq x6_2 a0_0 l0_1 = some (r1, r2)) ∧ Aside0 (kq ≤ k1) ∧ Aside0 (Kd.R (Kd.int .i64) 3 w' w.heap.size (fun _ => True) v6 x6_2) ∧ Aside0 (w'.heap[gb491]? = some (.cells #[.int .i64 a0_0, (.slice A0_1 l0_1.length c0_1)] 24 (0, 0))) ∧ Aside0 (Below w.heap.size w w'))
 case atStart => exact ⟨(t498), H', ⟨Nat.le_refl _⟩, ⟨rx HO500.out⟩, xb BK491, ⟨lb⟩⟩
 clear H'; obtain ⟨x6_2, HA, HK2, HO_6, BK491, HB⟩ := hrel
 cases gk with
 | zero => exact absurd HA.out (by simp [compassref11_LeastMean.l1])
 | succ k2 => ?_
 have H := HA.out; clear HA
 simp only [compassref11_LeastMean.l1] at H
 replace H := Option.bind_eq_some_iff.mp H; obtain ⟨t501, A210, H⟩ := H; have A21 := ak A210; clear A210; replace H := Option.bind_eq_some_iff.mp H; obtain ⟨⟨t502, t503⟩, A220, H⟩ := H; dsimp only at H; have A22 := ak A220; clear A220; replace H := Option.bind_eq_some_iff.mp H; obtain ⟨t507, A230, H⟩ := H; have A23 := ak A230; clear A230
 by_cases c24 : (t507.length : Int) = 0
 rotate_left
 ·
  rw [if_neg c24] at H; have c24b := bn2 c24
  have c24b2 : ¬ (t507 = []) := fun h_ => c24 (by rw [h_]; rfl)
  have H' := ak H; clear H; obtain ⟨Ao78, co78, eo78⟩ := Kd.R_slice HO_6.out; subst eo78
  try go_wp2
  have n_ := a3 (Kd.R_drew HO_6.out) (blk_drew BK491.out) (below_drew1 HB.out); clear HO_6 BK491 HB; obtain ⟨HO_6, BK491, HB⟩ := n_
  refine stC 9 [] (cX (bc0 BK491) (cY (bc1 BK491))) compassref11_LeastMean.tab10 compassref11_LeastMean.bits10 fun hHeld HT_ HW_ => ?_
  generalize wr.drew = w79 at HO_6 BK491 HB hHeld ⊢
  refine pv HT_ 2 44 ?_; refine pv HT_ 4 46 ?_; refine pv HT_ 5 47 ?_; refine tv HT_ HW_ hHeld 0 42 ?_; refine tv HT_ HW_ hHeld 1 43 ?_
  refine join_ (σ := Value × Nat) 1 #[T, T, T, T, T, T, T, T, F] (fun s_ => [(45, .int .i64 t501), (48, .agg #[.int .i64 t502, s_.1]), (7, .pointer (some ⟨s_.2, 0, none⟩))]) (fun s_ w' => (w'.cell? ⟨gb491, 0, none⟩ = some (.int .i64 a0_0) ∧ w'.cell? ⟨gb491, 1, none⟩ = some (.slice A0_1 l0_1.length c0_1)) ∧ (Kd.R k98 98 w' w.heap.size (fun _ => True) s_.1 t503) ∧ (Kd.R (Kd.int .i64) 3 w' w.heap.size (fun _ => True) (.slice Ao78 x6_2.length co78) x6_2) ∧ (w'.heap[gb491]? = some (.cells #[.int .i64 a0_0, .slice A0_1 l0_1.length c0_1] 24 (0, 0))) ∧ (w'.heap[s_.2]? = some (.cells #[.int .i64 0, .slice none 0 0] 24 (0, 0))) ∧ (w.heap.size ≤ s_.2) ∧ (w.heap.size ≤ s_.2) ∧ (gb491 ≠ s_.2) ∧ (s_.2 ≠ gb491) ∧ (Below w.heap.size w w')) ?_ ?_
  rotate_left
  ·
   intro hCont
   refine two_ (i := 3) (j := 7) (Ni := some 45) (Nj := some 7) #[T, T, T, T, T, T, F, F, F] #[T, T, T, F, T, T, F, T, F] rfl rfl rfl rfl (two_of HT_.out (by kernel_rfl)) (by decide) (by decide) (fun K hK => ?_) (fun K hK => ?_)
   ·
    skip
    refine goes_ Try.func47 (by kernel_rfl) rfl #[.agg #[.int .i64 a0_0, .slice A0_1 l0_1.length c0_1], .slice Ao78 x6_2.length co78] (by rfl) rfl rfl (by (try simp only [List.map_toArray, List.map_cons, List.map_nil]); first | done | rfl | (simp only [List.length_drop, List.length_take]; rfl)) ?_
    with_reducible refine (compassref08_Cost.calls k2 a0_0 _ _ l0_1 _ _ x6_2 t501 _ ?side1 ?side2 ?side3 ?side4 A21.out).mono ?_
    (case side1 => exact Kd.C_below HR0_1.out lb)
    (case side2 => exact HC0_1.out)
    (case side3 => repeat (first | exact (Kd.R_reads' HO_6.out).2.2 | (with_reducible refine Kd.C_alloc ?_ _) | (with_reducible refine Kd.C_drewN ?_ _) | (with_reducible refine Kd.C_drew ?_)))
    (case side4 => exact (Kd.R_reads' HO_6.out).2.1)
    rintro e w80 ⟨rfl, hb⟩
    refine ⟨_, rfl, ?_⟩
    have n_ := a3 (ro HO_6 hb) (bo BK491 hb) (bl hb); clear HO_6 BK491 HB; obtain ⟨HO_6, BK491, HB⟩ := n_
    (try clear hb)
    (try clear hb2)
    (try clear hk)
    (try clear hi)
    refine hK.out _ _ ⟨(blk_cell BK491.out 0).trans rfl, (blk_cell BK491.out 1).trans rfl⟩ (fun hHeld => ?_)
    clear hK K
    refine norm_ (a' := ?_) ?_ ?_
    rotate_left
    ·
     show Act.put _ (some 45) _ = _
     simp only [Act.put, sA, sZ, sS, i64_w, i32_w]
     rfl
    refine two_ (i := 6) (j := 7) (Ni := some 48) (Nj := some 7) #[T, T, T, T, T, T, T, F, F] #[T, T, T, T, T, T, F, T, F] rfl rfl rfl rfl (two_of HT_.out (by kernel_rfl)) (by decide) (by decide) (fun K hK => ?_) (fun K hK => ?_)
    ·
     skip
     refine goes_ Try.func82 (by kernel_rfl) rfl #[.agg #[.int .i64 a0_0, .slice A0_1 l0_1.length c0_1], .int .i64 t501, .int .i64 (x6_2.length : Int)] (by rfl) rfl rfl (by (try simp only [List.map_toArray, List.map_cons, List.map_nil]); first | done | rfl | (simp only [List.length_drop, List.length_take]; rfl)) ?_
     with_reducible refine (compassref11_scaled.calls k2 a0_0 _ _ l0_1 t501 (x6_2.length : Int) t502 t503 _ (Kd.C_below HR0_1.out lb) HC0_1.out A22.out).mono ?_
     rintro e w81 ⟨v504, rfl, ho0, hb⟩
     refine ⟨_, rfl, ?_⟩
     have n_ := a4 (ro HO_6 hb) (Kd.R_lower ho0 (below_size lb)) (bo BK491 hb) (bl hb); clear HO_6 BK491 HB; obtain ⟨HO_6, HO505, BK491, HB⟩ := n_
     (try clear hb)
     (try clear hb2)
     (try clear hk)
     (try clear hi)
     (try clear ho0)
     refine hK.out _ _ ⟨(blk_cell BK491.out 0).trans rfl, (blk_cell BK491.out 1).trans rfl⟩ (fun hHeld => ?_)
     clear hK K
     refine norm_ (a' := ?_) ?_ ?_
     rotate_left
     ·
      show Act.put _ (some 48) _ = _
      simp only [Act.put, sA, sZ, sS, i64_w, i32_w]
      rfl
     refine one_ (i := 7) (N := some 7) #[T, T, T, T, T, T, T, T, F] rfl rfl (one_of HT_.out (by kernel_rfl)) (by decide) (fun K hK => ?_)
     refine box_step ?hg (N := 7) ?hd (cs := #[.int .i64 0, .slice none 0 0]) (t := 24) ?hr ?_; (case hd => rfl); (case hg => rfl); (case hr => first | (go_simp; done) | (go_simp; rfl))
     intro gb506 hg w82 hbox hb; have n_ := a9 (ro HO_6 hb) (ro HO505 hb) (bo BK491 hb) (bl hb) hbox (gw w hg) (gw w hg) (nl hg BK491) (nr hg BK491); clear HO_6 HO505 BK491 HB; obtain ⟨HO_6, HO505, BK491, HB, BK506, GW506, GE506, NB491_506, NB506_491⟩ := n_; clear hb hbox hg
     refine hK.out _ _ ⟨(blk_cell BK491.out 0).trans rfl, (blk_cell BK491.out 1).trans rfl⟩ (fun hHeld => ?_)
     clear hK K
     refine norm_ (a' := ?_) ?_ ?_
     rotate_left
     ·
      show Act.put _ (some 7) _ = _
      simp only [Act.put, sA, sZ, sS, i64_w, i32_w]
      rfl
     exact norm_ (by simp only [putAll, Act.put, sA, sZ, sS]) (hCont (v504, gb506) _ ⟨hHeld, (rx HO505.out), (rx HO_6.out), (bx BK491.out), (bx BK506.out), GW506.out, GE506.out, NB491_506.out, NB506_491.out, lb⟩)
    ·
     skip
     refine box_step ?hg (N := 7) ?hd (cs := #[.int .i64 0, .slice none 0 0]) (t := 24) ?hr ?_; (case hd => rfl); (case hg => rfl); (case hr => first | (go_simp; done) | (go_simp; rfl))
     intro gb506 hg w81 hbox hb; have n_ := a8 (ro HO_6 hb) (bo BK491 hb) (bl hb) hbox (gw w hg) (gw w hg) (nl hg BK491) (nr hg BK491); clear HO_6 BK491 HB; obtain ⟨HO_6, BK491, HB, BK506, GW506, GE506, NB491_506, NB506_491⟩ := n_; clear hb hbox hg
     refine hK.out _ _ ⟨(blk_cell BK491.out 0).trans rfl, (blk_cell BK491.out 1).trans rfl⟩ (fun hHeld => ?_)
     clear hK K
     refine norm_ (a' := ?_) ?_ ?_
     rotate_left
     ·
      show Act.put _ (some 7) _ = _
      simp only [Act.put, sA, sZ, sS, i64_w, i32_w]
      rfl
     refine one_ (i := 6) (N := some 48) #[T, T, T, T, T, T, T, T, F] rfl rfl (one_of HT_.out (by kernel_rfl)) (by decide) (fun K hK => ?_)
     refine goes_ Try.func82 (by kernel_rfl) rfl #[.agg #[.int .i64 a0_0, .slice A0_1 l0_1.length c0_1], .int .i64 t501, .int .i64 (x6_2.length : Int)] (by rfl) rfl rfl (by (try simp only [List.map_toArray, List.map_cons, List.map_nil]); first | done | rfl | (simp only [List.length_drop, List.length_take]; rfl)) ?_
     with_reducible refine (compassref11_scaled.calls k2 a0_0 _ _ l0_1 t501 (x6_2.length : Int) t502 t503 _ (Kd.C_below HR0_1.out lb) HC0_1.out A22.out).mono ?_
     rintro e w82 ⟨v504, rfl, ho0, hb⟩
     refine ⟨_, rfl, ?_⟩
     have n_ := a5 (ro HO_6 hb) (Kd.R_lower ho0 (below_size lb)) (bo BK491 hb) (bo BK506 hb) (bl hb); clear HO_6 BK491 BK506 HB; obtain ⟨HO_6, HO505, BK491, BK506, HB⟩ := n_
     (try clear hb)
     (try clear hb2)
     (try clear hk)
     (try clear hi)
     (try clear ho0)
     refine hK.out _ _ ⟨(blk_cell BK491.out 0).trans rfl, (blk_cell BK491.out 1).trans rfl⟩ (fun hHeld => ?_)
     clear hK K
     refine norm_ (a' := ?_) ?_ ?_
     rotate_left
     ·
      show Act.put _ (some 48) _ = _
      simp only [Act.put, sA, sZ, sS, i64_w, i32_w]
      rfl
     exact norm_ (by simp only [putAll, Act.put, sA, sZ, sS]) (hCont (v504, gb506) _ ⟨hHeld, (rx HO505.out), (rx HO_6.out), (bx BK491.out), (bx BK506.out), GW506.out, GE506.out, NB491_506.out, NB506_491.out, lb⟩)
   ·
    skip
    refine box_step ?hg (N := 7) ?hd (cs := #[.int .i64 0, .slice none 0 0]) (t := 24) ?hr ?_; (case hd => rfl); (case hg => rfl); (case hr => first | (go_simp; done) | (go_simp; rfl))
    intro gb506 hg w80 hbox hb; have n_ := a8 (ro HO_6 hb) (bo BK491 hb) (bl hb) hbox (gw w hg) (gw w hg) (nl hg BK491) (nr hg BK491); clear HO_6 BK491 HB; obtain ⟨HO_6, BK491, HB, BK506, GW506, GE506, NB491_506, NB506_491⟩ := n_; clear hb hbox hg
    refine hK.out _ _ ⟨(blk_cell BK491.out 0).trans rfl, (blk_cell BK491.out 1).trans rfl⟩ (fun hHeld => ?_)
    clear hK K
    refine norm_ (a' := ?_) ?_ ?_
    rotate_left
    ·
     show Act.put _ (some 7) _ = _
     simp only [Act.put, sA, sZ, sS, i64_w, i32_w]
     rfl
    refine one_ (i := 3) (N := some 45) #[T, T, T, T, T, T, F, T, F] rfl rfl (one_of HT_.out (by kernel_rfl)) (by decide) (fun K hK => ?_)
    refine goes_ Try.func47 (by kernel_rfl) rfl #[.agg #[.int .i64 a0_0, .slice A0_1 l0_1.length c0_1], .slice Ao78 x6_2.length co78] (by rfl) rfl rfl (by (try simp only [List.map_toArray, List.map_cons, List.map_nil]); first | done | rfl | (simp only [List.length_drop, List.length_take]; rfl)) ?_
    with_reducible refine (compassref08_Cost.calls k2 a0_0 _ _ l0_1 _ _ x6_2 t501 _ ?side1 ?side2 ?side3 ?side4 A21.out).mono ?_
    (case side1 => exact Kd.C_below HR0_1.out lb)
    (case side2 => exact HC0_1.out)
    (case side3 => repeat (first | exact (Kd.R_reads' HO_6.out).2.2 | (with_reducible refine Kd.C_alloc ?_ _) | (with_reducible refine Kd.C_drewN ?_ _) | (with_reducible refine Kd.C_drew ?_)))
    (case side4 => exact (Kd.R_reads' HO_6.out).2.1)
    rintro e w81 ⟨rfl, hb⟩
    refine ⟨_, rfl, ?_⟩
    have n_ := a4 (ro HO_6 hb) (bo BK491 hb) (bo BK506 hb) (bl hb); clear HO_6 BK491 BK506 HB; obtain ⟨HO_6, BK491, BK506, HB⟩ := n_
    (try clear hb)
    (try clear hb2)
    (try clear hk)
    (try clear hi)
    refine hK.out _ _ ⟨(blk_cell BK491.out 0).trans rfl, (blk_cell BK491.out 1).trans rfl⟩ (fun hHeld => ?_)
    clear hK K
    refine norm_ (a' := ?_) ?_ ?_
    rotate_left
    ·
     show Act.put _ (some 45) _ = _
     simp only [Act.put, sA, sZ, sS, i64_w, i32_w]
     rfl
    refine one_ (i := 6) (N := some 48) #[T, T, T, T, T, T, T, T, F] rfl rfl (one_of HT_.out (by kernel_rfl)) (by decide) (fun K hK => ?_)
    refine goes_ Try.func82 (by kernel_rfl) rfl #[.agg #[.int .i64 a0_0, .slice A0_1 l0_1.length c0_1], .int .i64 t501, .int .i64 (x6_2.length : Int)] (by rfl) rfl rfl (by (try simp only [List.map_toArray, List.map_cons, List.map_nil]); first | done | rfl | (simp only [List.length_drop, List.length_take]; rfl)) ?_
    with_reducible refine (compassref11_scaled.calls k2 a0_0 _ _ l0_1 t501 (x6_2.length : Int) t502 t503 _ (Kd.C_below HR0_1.out lb) HC0_1.out A22.out).mono ?_
    rintro e w82 ⟨v504, rfl, ho0, hb⟩
    refine ⟨_, rfl, ?_⟩
    have n_ := a5 (ro HO_6 hb) (Kd.R_lower ho0 (below_size lb)) (bo BK491 hb) (bo BK506 hb) (bl hb); clear HO_6 BK491 BK506 HB; obtain ⟨HO_6, HO505, BK491, BK506, HB⟩ := n_
    (try clear hb)
    (try clear hb2)
    (try clear hk)
    (try clear hi)
    (try clear ho0)
    refine hK.out _ _ ⟨(blk_cell BK491.out 0).trans rfl, (blk_cell BK491.out 1).trans rfl⟩ (fun hHeld => ?_)
    clear hK K
    refine norm_ (a' := ?_) ?_ ?_
    rotate_left
    ·
     show Act.put _ (some 48) _ = _
     simp only [Act.put, sA, sZ, sS, i64_w, i32_w]
     rfl
    exact norm_ (by simp only [putAll, Act.put, sA, sZ, sS]) (hCont (v504, gb506) _ ⟨hHeld, (rx HO505.out), (rx HO_6.out), (bx BK491.out), (bx BK506.out), GW506.out, GE506.out, NB491_506.out, NB506_491.out, lb⟩)
  rintro ⟨v504, gb506⟩ w83 ⟨hS_, h0_, h1_, h2_, h3_, h4_, h5_, h6_, h7_, h8_⟩; have n0_ : Aside0 (Kd.R k98 98 w83 w.heap.size (fun _ => True) v504 t503) := ⟨h0_⟩; have n1_ : Aside0 (Kd.R (Kd.int .i64) 3 w83 w.heap.size (fun _ => True) (.slice Ao78 x6_2.length co78) x6_2) := ⟨h1_⟩; have n2_ : Aside0 (w83.heap[gb491]? = some (.cells #[.int .i64 a0_0, .slice A0_1 l0_1.length c0_1] 24 (0, 0))) := ⟨h2_⟩; have n3_ : Aside0 (w83.heap[gb506]? = some (.cells #[.int .i64 0, .slice none 0 0] 24 (0, 0))) := ⟨h3_⟩; have n4_ : Aside0 (w.heap.size ≤ gb506) := ⟨h4_⟩; have n5_ : Aside0 (w.heap.size ≤ gb506) := ⟨h5_⟩; have n6_ : Aside0 (gb491 ≠ gb506) := ⟨h6_⟩; have n7_ : Aside0 (gb506 ≠ gb491) := ⟨h7_⟩; have n8_ : Aside0 (Below w.heap.size w w83) := ⟨h8_⟩; clear HO_6; clear BK491; clear HB; clear h0_ h1_ h2_ h3_ h4_ h5_ h6_ h7_ h8_; have HO505 := n0_; have HO_6 := n1_; have BK491 := n2_; have BK506 := n3_; have GW506 := n4_; have GE506 := n5_; have NB491_506 := n6_; have NB506_491 := n7_; have HB := n8_; clear n0_ n1_ n2_ n3_ n4_ n5_ n6_ n7_ n8_; have hHeld : w83.cell? ⟨gb491, 0, none⟩ = some (.int .i64 a0_0) ∧ w83.cell? ⟨gb491, 1, none⟩ = some (.slice A0_1 l0_1.length c0_1) := hS_; obtain ⟨Ao85, co85, eo85⟩ := Kd.R_slice HO505.out
  (first | subst eo85 | (injection eo85 with f1_ f2_ f3_; have f4_ := f1_.symm; have f5_ := f3_.symm; clear f1_ f2_ f3_; subst f4_; subst f5_))
  refine norm_ (a' := ?_) ?_ ?_
  rotate_left
  ·
   simp only [putAll, Act.put, sA, sZ, sS]
   rfl
  refine one_ (i := 8) (N := none) #[T, T, T, T, T, T, T, T, T] rfl rfl (one_of HT_.out (by kernel_rfl)) (by decide) (fun K hK => ?_)
  have hs84 : w83.cell? ⟨gb506, 0, none⟩ = some (.int .i64 0) := (blk_cell BK506.out 0).trans rfl; have hfs84 := bf BK506 0; have hns84_0 := NB491_506.out; have hms84_0 := NB506_491.out; have hs86 : w83.cell? ⟨gb506, 1, none⟩ = some (.slice none 0 0) := (blk_cell BK506.out 1).trans rfl; have hfs86 := bf BK506 1; have hns86_0 := NB491_506.out; have hms86_0 := NB506_491.out
  refine skip_ (w1 := ?_) (by rfl) rfl ?_ ?_
  rotate_left
  ·
   go_simp
   rfl
  refine hK.out _ _ ⟨((cell_far (p := ⟨gb506, _, none⟩) NB491_506.out _).trans (((cell_far (p := ⟨gb506, _, none⟩) NB491_506.out _).trans (hHeld.1)))), ((cell_far (p := ⟨gb506, _, none⟩) NB491_506.out _).trans (((cell_far (p := ⟨gb506, _, none⟩) NB491_506.out _).trans (hHeld.2))))⟩ (fun hHeld => ?_)
  clear hK K
  refine done_ (done_of HT_.out (by kernel_rfl)) ?_
  have ⟨_, _⟩ := nn NB506_491; have ⟨_, _, _, _⟩ := cf2 BK506
  try go_wp2_with (first | ((with_reducible refine gate_callee (f := 72) rfl ?_); refine gl 50 Try.func72 #[.agg #[.int .i64 t502, .slice Ao85 t503.length co85]] ?_; (with_reducible refine (compassref11_Below.calls k2 t502 _ _ t503 t507 _ ?side1 ?side2 A23.out).mono ?_); (case side1 => refine (Kd.R_reads' (e := 98) (base := w.heap.size) (ok := fun k_ => True) (n := t503.length) (c := co85) ?_).2.2; exact (by (with_reducible repeat (first | apply Kd.R_alloc | apply Kd.R_drewN | apply Kd.R_drew)); exact (Kd.R_mono (Kd.R_far (p := ⟨gb506, 1, none⟩) (Kd.R_far (p := ⟨gb506, 0, none⟩) (Kd.R_types HO505.out BK506.out (by decide)) (fun _ hk => hk.2) (.int .i64 t502)) (fun _ hk => hk.2) (.slice Ao85 t503.length co85)) (fun _ h_ => h_.1)))); (case side2 => exact (Kd.R_reads' HO505.out).2.1); rintro e w89 ⟨v508, rfl, ho0, hb⟩; refine ⟨_, rfl, ?_⟩; have n_ := a6 (Kd.R_elder' (by (with_reducible repeat (first | apply Kd.R_alloc | apply Kd.R_drewN | apply Kd.R_drew)); exact (Kd.R_mono (Kd.R_far (p := ⟨gb506, 1, none⟩) (Kd.R_far (p := ⟨gb506, 0, none⟩) (Kd.R_types HO_6.out BK506.out (by decide)) (fun _ hk => hk.2) (.int .i64 t502)) (fun _ hk => hk.2) (.slice Ao85 t503.length co85)) (fun _ h_ => h_.1))) (Kd.R_base ho0) hb) (Kd.R_below (by (with_reducible repeat (first | apply Kd.R_alloc | apply Kd.R_drewN | apply Kd.R_drew)); exact (Kd.R_mono (Kd.R_far (p := ⟨gb506, 1, none⟩) (Kd.R_far (p := ⟨gb506, 0, none⟩) (Kd.R_types HO505.out BK506.out (by decide)) (fun _ hk => hk.2) (.int .i64 t502)) (fun _ hk => hk.2) (.slice Ao85 t503.length co85)) (fun _ h_ => h_.1))) hb) (Kd.R_lower (Kd.R_new' ho0 (Kd.R_lt (by (with_reducible repeat (first | apply Kd.R_alloc | apply Kd.R_drewN | apply Kd.R_drew)); exact (Kd.R_mono (Kd.R_far (p := ⟨gb506, 1, none⟩) (Kd.R_far (p := ⟨gb506, 0, none⟩) (Kd.R_types HO_6.out BK506.out (by decide)) (fun _ hk => hk.2) (.int .i64 t502)) (fun _ hk => hk.2) (.slice Ao85 t503.length co85)) (fun _ h_ => h_.1))))) (below_size lb)) (blk_below (g := gb491) (o := .cells #[.int .i64 a0_0, .slice A0_1 l0_1.length c0_1] 24 (0, 0)) (by (with_reducible repeat (first | refine blk_drewN ?_ _ | refine blk_drew ?_ | refine blk_alloc ?_ _)); refine blk_far ?_ NB491_506.out _; (with_reducible repeat (first | refine blk_drewN ?_ _ | refine blk_drew ?_ | refine blk_alloc ?_ _)); refine blk_far ?_ NB491_506.out _; exact bx BK491.out) hb) (blk_below (g := gb506) (o := .cells #[.int .i64 t502, .slice Ao85 t503.length co85] 24 (0, 0)) (by (with_reducible repeat (first | refine blk_drewN ?_ _ | refine blk_drew ?_ | refine blk_alloc ?_ _)); refine blk_put (cs := #[.int .i64 t502, .slice none 0 0]) ?_ 1 _ rfl; (with_reducible repeat (first | refine blk_drewN ?_ _ | refine blk_drew ?_ | refine blk_alloc ?_ _)); refine blk_put (cs := #[.int .i64 0, .slice none 0 0]) ?_ 0 _ rfl; exact bx BK506.out) hb) (bl hb); clear HO_6 HO505 BK491 BK506 HB; obtain ⟨HO_6, HO505, HO509, BK491, BK506, HB⟩ := n_; clear hb; (try clear ho0); obtain ⟨Ao90, co90, eo90⟩ := Kd.R_slice HO509.out; subst eo90))
  go_roundg k2
  case measure => have := HK1.out; have := HK2.out; omega
  case rel => exact ⟨(t507), H', ⟨by have := HK1.out; have := HK2.out; omega⟩, ⟨by exact rx (Kd.R_mono HO509.out (fun _ hk => trivial))⟩, xb BK491, ⟨lb⟩⟩
 rw [if_pos c24] at H; have c24b := be2 c24; clear c24; replace H := ife H; obtain ⟨c25b0, c25b1, H⟩ := H; replace H := ife H; obtain ⟨c26b0, c26b1, H⟩ := H; obtain ⟨y510, hy510⟩ : ∃ y_ : List Int, y_ = (List.replicate (a0_0 : Int).toNat 0) := ⟨_, rfl⟩; replace H : (compassref11_LeastMean.l2 k2 x6_2 y510 0 a0_0 l0_1 t502 t503) = some (r1, r2) := by first | (rw [hy510]; exact H) | exact H
 have Ny510 := ak hy510; clear hy510; have H' := ak H; clear H; obtain ⟨Ao27, co27, eo27⟩ := Kd.R_slice HO_6.out; subst eo27
 try go_wp2
 have n_ := a3 (Kd.R_drew HO_6.out) (blk_drew BK491.out) (below_drew1 HB.out); clear HO_6 BK491 HB; obtain ⟨HO_6, BK491, HB⟩ := n_
 refine stC 9 [] (cX (bc0 BK491) (cY (bc1 BK491))) compassref11_LeastMean.tab10 compassref11_LeastMean.bits10 fun hHeld HT_ HW_ => ?_
 generalize wr.drew = w28 at HO_6 BK491 HB hHeld ⊢
 refine pv HT_ 2 44 ?_; refine pv HT_ 4 46 ?_; refine pv HT_ 5 47 ?_; refine tv HT_ HW_ hHeld 0 42 ?_; refine tv HT_ HW_ hHeld 1 43 ?_
 refine join_ (σ := Value × Nat) 1 #[T, T, T, T, T, T, T, T, F] (fun s_ => [(45, .int .i64 t501), (48, .agg #[.int .i64 t502, s_.1]), (7, .pointer (some ⟨s_.2, 0, none⟩))]) (fun s_ w' => (w'.cell? ⟨gb491, 0, none⟩ = some (.int .i64 a0_0) ∧ w'.cell? ⟨gb491, 1, none⟩ = some (.slice A0_1 l0_1.length c0_1)) ∧ (Kd.R k98 98 w' w.heap.size (fun _ => True) s_.1 t503) ∧ (Kd.R (Kd.int .i64) 3 w' w.heap.size (fun _ => True) (.slice Ao27 x6_2.length co27) x6_2) ∧ (w'.heap[gb491]? = some (.cells #[.int .i64 a0_0, .slice A0_1 l0_1.length c0_1] 24 (0, 0))) ∧ (w'.heap[s_.2]? = some (.cells #[.int .i64 0, .slice none 0 0] 24 (0, 0))) ∧ (w.heap.size ≤ s_.2) ∧ (w.heap.size ≤ s_.2) ∧ (gb491 ≠ s_.2) ∧ (s_.2 ≠ gb491) ∧ (Below w.heap.size w w')) ?_ ?_
 rotate_left
 ·
  intro hCont
  refine two_ (i := 3) (j := 7) (Ni := some 45) (Nj := some 7) #[T, T, T, T, T, T, F, F, F] #[T, T, T, F, T, T, F, T, F] rfl rfl rfl rfl (two_of HT_.out (by kernel_rfl)) (by decide) (by decide) (fun K hK => ?_) (fun K hK => ?_)
  ·
   skip
   refine goes_ Try.func47 (by kernel_rfl) rfl #[.agg #[.int .i64 a0_0, .slice A0_1 l0_1.length c0_1], .slice Ao27 x6_2.length co27] (by rfl) rfl rfl (by (try simp only [List.map_toArray, List.map_cons, List.map_nil]); first | done | rfl | (simp only [List.length_drop, List.length_take]; rfl)) ?_
   with_reducible refine (compassref08_Cost.calls k2 a0_0 _ _ l0_1 _ _ x6_2 t501 _ ?side1 ?side2 ?side3 ?side4 A21.out).mono ?_
   (case side1 => exact Kd.C_below HR0_1.out lb)
   (case side2 => exact HC0_1.out)
   (case side3 => repeat (first | exact (Kd.R_reads' HO_6.out).2.2 | (with_reducible refine Kd.C_alloc ?_ _) | (with_reducible refine Kd.C_drewN ?_ _) | (with_reducible refine Kd.C_drew ?_)))
   (case side4 => exact (Kd.R_reads' HO_6.out).2.1)
   rintro e w29 ⟨rfl, hb⟩
   refine ⟨_, rfl, ?_⟩
   have n_ := a3 (ro HO_6 hb) (bo BK491 hb) (bl hb); clear HO_6 BK491 HB; obtain ⟨HO_6, BK491, HB⟩ := n_
   (try clear hb)
   (try clear hb2)
   (try clear hk)
   (try clear hi)
   refine hK.out _ _ ⟨(blk_cell BK491.out 0).trans rfl, (blk_cell BK491.out 1).trans rfl⟩ (fun hHeld => ?_)
   clear hK K
   refine norm_ (a' := ?_) ?_ ?_
   rotate_left
   ·
    show Act.put _ (some 45) _ = _
    simp only [Act.put, sA, sZ, sS, i64_w, i32_w]
    rfl
   refine two_ (i := 6) (j := 7) (Ni := some 48) (Nj := some 7) #[T, T, T, T, T, T, T, F, F] #[T, T, T, T, T, T, F, T, F] rfl rfl rfl rfl (two_of HT_.out (by kernel_rfl)) (by decide) (by decide) (fun K hK => ?_) (fun K hK => ?_)
   ·
    skip
    refine goes_ Try.func82 (by kernel_rfl) rfl #[.agg #[.int .i64 a0_0, .slice A0_1 l0_1.length c0_1], .int .i64 t501, .int .i64 (x6_2.length : Int)] (by rfl) rfl rfl (by (try simp only [List.map_toArray, List.map_cons, List.map_nil]); first | done | rfl | (simp only [List.length_drop, List.length_take]; rfl)) ?_
    with_reducible refine (compassref11_scaled.calls k2 a0_0 _ _ l0_1 t501 (x6_2.length : Int) t502 t503 _ (Kd.C_below HR0_1.out lb) HC0_1.out A22.out).mono ?_
    rintro e w30 ⟨v504, rfl, ho0, hb⟩
    refine ⟨_, rfl, ?_⟩
    have n_ := a4 (ro HO_6 hb) (Kd.R_lower ho0 (below_size lb)) (bo BK491 hb) (bl hb); clear HO_6 BK491 HB; obtain ⟨HO_6, HO505, BK491, HB⟩ := n_
    (try clear hb)
    (try clear hb2)
    (try clear hk)
    (try clear hi)
    (try clear ho0)
    refine hK.out _ _ ⟨(blk_cell BK491.out 0).trans rfl, (blk_cell BK491.out 1).trans rfl⟩ (fun hHeld => ?_)
    clear hK K
    refine norm_ (a' := ?_) ?_ ?_
    rotate_left
    ·
     show Act.put _ (some 48) _ = _
     simp only [Act.put, sA, sZ, sS, i64_w, i32_w]
     rfl
    refine one_ (i := 7) (N := some 7) #[T, T, T, T, T, T, T, T, F] rfl rfl (one_of HT_.out (by kernel_rfl)) (by decide) (fun K hK => ?_)
    refine box_step ?hg (N := 7) ?hd (cs := #[.int .i64 0, .slice none 0 0]) (t := 24) ?hr ?_; (case hd => rfl); (case hg => rfl); (case hr => first | (go_simp; done) | (go_simp; rfl))
    intro gb506 hg w31 hbox hb; have n_ := a9 (ro HO_6 hb) (ro HO505 hb) (bo BK491 hb) (bl hb) hbox (gw w hg) (gw w hg) (nl hg BK491) (nr hg BK491); clear HO_6 HO505 BK491 HB; obtain ⟨HO_6, HO505, BK491, HB, BK506, GW506, GE506, NB491_506, NB506_491⟩ := n_; clear hb hbox hg
    refine hK.out _ _ ⟨(blk_cell BK491.out 0).trans rfl, (blk_cell BK491.out 1).trans rfl⟩ (fun hHeld => ?_)
    clear hK K
    refine norm_ (a' := ?_) ?_ ?_
    rotate_left
    ·
     show Act.put _ (some 7) _ = _
     simp only [Act.put, sA, sZ, sS, i64_w, i32_w]
     rfl
    exact norm_ (by simp only [putAll, Act.put, sA, sZ, sS]) (hCont (v504, gb506) _ ⟨hHeld, (rx HO505.out), (rx HO_6.out), (bx BK491.out), (bx BK506.out), GW506.out, GE506.out, NB491_506.out, NB506_491.out, lb⟩)
   ·
    skip
    refine box_step ?hg (N := 7) ?hd (cs := #[.int .i64 0, .slice none 0 0]) (t := 24) ?hr ?_; (case hd => rfl); (case hg => rfl); (case hr => first | (go_simp; done) | (go_simp; rfl))
    intro gb506 hg w30 hbox hb; have n_ := a8 (ro HO_6 hb) (bo BK491 hb) (bl hb) hbox (gw w hg) (gw w hg) (nl hg BK491) (nr hg BK491); clear HO_6 BK491 HB; obtain ⟨HO_6, BK491, HB, BK506, GW506, GE506, NB491_506, NB506_491⟩ := n_; clear hb hbox hg
    refine hK.out _ _ ⟨(blk_cell BK491.out 0).trans rfl, (blk_cell BK491.out 1).trans rfl⟩ (fun hHeld => ?_)
    clear hK K
    refine norm_ (a' := ?_) ?_ ?_
    rotate_left
    ·
     show Act.put _ (some 7) _ = _
     simp only [Act.put, sA, sZ, sS, i64_w, i32_w]
     rfl
    refine one_ (i := 6) (N := some 48) #[T, T, T, T, T, T, T, T, F] rfl rfl (one_of HT_.out (by kernel_rfl)) (by decide) (fun K hK => ?_)
    refine goes_ Try.func82 (by kernel_rfl) rfl #[.agg #[.int .i64 a0_0, .slice A0_1 l0_1.length c0_1], .int .i64 t501, .int .i64 (x6_2.length : Int)] (by rfl) rfl rfl (by (try simp only [List.map_toArray, List.map_cons, List.map_nil]); first | done | rfl | (simp only [List.length_drop, List.length_take]; rfl)) ?_
    with_reducible refine (compassref11_scaled.calls k2 a0_0 _ _ l0_1 t501 (x6_2.length : Int) t502 t503 _ (Kd.C_below HR0_1.out lb) HC0_1.out A22.out).mono ?_
    rintro e w31 ⟨v504, rfl, ho0, hb⟩
    refine ⟨_, rfl, ?_⟩
    have n_ := a5 (ro HO_6 hb) (Kd.R_lower ho0 (below_size lb)) (bo BK491 hb) (bo BK506 hb) (bl hb); clear HO_6 BK491 BK506 HB; obtain ⟨HO_6, HO505, BK491, BK506, HB⟩ := n_
    (try clear hb)
    (try clear hb2)
    (try clear hk)
    (try clear hi)
    (try clear ho0)
    refine hK.out _ _ ⟨(blk_cell BK491.out 0).trans rfl, (blk_cell BK491.out 1).trans rfl⟩ (fun hHeld => ?_)
    clear hK K
    refine norm_ (a' := ?_) ?_ ?_
    rotate_left
    ·
     show Act.put _ (some 48) _ = _
     simp only [Act.put, sA, sZ, sS, i64_w, i32_w]
     rfl
    exact norm_ (by simp only [putAll, Act.put, sA, sZ, sS]) (hCont (v504, gb506) _ ⟨hHeld, (rx HO505.out), (rx HO_6.out), (bx BK491.out), (bx BK506.out), GW506.out, GE506.out, NB491_506.out, NB506_491.out, lb⟩)
  ·
   skip
   refine box_step ?hg (N := 7) ?hd (cs := #[.int .i64 0, .slice none 0 0]) (t := 24) ?hr ?_; (case hd => rfl); (case hg => rfl); (case hr => first | (go_simp; done) | (go_simp; rfl))
   intro gb506 hg w29 hbox hb; have n_ := a8 (ro HO_6 hb) (bo BK491 hb) (bl hb) hbox (gw w hg) (gw w hg) (nl hg BK491) (nr hg BK491); clear HO_6 BK491 HB; obtain ⟨HO_6, BK491, HB, BK506, GW506, GE506, NB491_506, NB506_491⟩ := n_; clear hb hbox hg
   refine hK.out _ _ ⟨(blk_cell BK491.out 0).trans rfl, (blk_cell BK491.out 1).trans rfl⟩ (fun hHeld => ?_)
   clear hK K
   refine norm_ (a' := ?_) ?_ ?_
   rotate_left
   ·
    show Act.put _ (some 7) _ = _
    simp only [Act.put, sA, sZ, sS, i64_w, i32_w]
    rfl
   refine one_ (i := 3) (N := some 45) #[T, T, T, T, T, T, F, T, F] rfl rfl (one_of HT_.out (by kernel_rfl)) (by decide) (fun K hK => ?_)
   refine goes_ Try.func47 (by kernel_rfl) rfl #[.agg #[.int .i64 a0_0, .slice A0_1 l0_1.length c0_1], .slice Ao27 x6_2.length co27] (by rfl) rfl rfl (by (try simp only [List.map_toArray, List.map_cons, List.map_nil]); first | done | rfl | (simp only [List.length_drop, List.length_take]; rfl)) ?_
   with_reducible refine (compassref08_Cost.calls k2 a0_0 _ _ l0_1 _ _ x6_2 t501 _ ?side1 ?side2 ?side3 ?side4 A21.out).mono ?_
   (case side1 => exact Kd.C_below HR0_1.out lb)
   (case side2 => exact HC0_1.out)
   (case side3 => repeat (first | exact (Kd.R_reads' HO_6.out).2.2 | (with_reducible refine Kd.C_alloc ?_ _) | (with_reducible refine Kd.C_drewN ?_ _) | (with_reducible refine Kd.C_drew ?_)))
   (case side4 => exact (Kd.R_reads' HO_6.out).2.1)
   rintro e w30 ⟨rfl, hb⟩
   refine ⟨_, rfl, ?_⟩
   have n_ := a4 (ro HO_6 hb) (bo BK491 hb) (bo BK506 hb) (bl hb); clear HO_6 BK491 BK506 HB; obtain ⟨HO_6, BK491, BK506, HB⟩ := n_
   (try clear hb)
   (try clear hb2)
   (try clear hk)
   (try clear hi)
   refine hK.out _ _ ⟨(blk_cell BK491.out 0).trans rfl, (blk_cell BK491.out 1).trans rfl⟩ (fun hHeld => ?_)
   clear hK K
   refine norm_ (a' := ?_) ?_ ?_
   rotate_left
   ·
    show Act.put _ (some 45) _ = _
    simp only [Act.put, sA, sZ, sS, i64_w, i32_w]
    rfl
   refine one_ (i := 6) (N := some 48) #[T, T, T, T, T, T, T, T, F] rfl rfl (one_of HT_.out (by kernel_rfl)) (by decide) (fun K hK => ?_)
   refine goes_ Try.func82 (by kernel_rfl) rfl #[.agg #[.int .i64 a0_0, .slice A0_1 l0_1.length c0_1], .int .i64 t501, .int .i64 (x6_2.length : Int)] (by rfl) rfl rfl (by (try simp only [List.map_toArray, List.map_cons, List.map_nil]); first | done | rfl | (simp only [List.length_drop, List.length_take]; rfl)) ?_
   with_reducible refine (compassref11_scaled.calls k2 a0_0 _ _ l0_1 t501 (x6_2.length : Int) t502 t503 _ (Kd.C_below HR0_1.out lb) HC0_1.out A22.out).mono ?_
   rintro e w31 ⟨v504, rfl, ho0, hb⟩
   refine ⟨_, rfl, ?_⟩
   have n_ := a5 (ro HO_6 hb) (Kd.R_lower ho0 (below_size lb)) (bo BK491 hb) (bo BK506 hb) (bl hb); clear HO_6 BK491 BK506 HB; obtain ⟨HO_6, HO505, BK491, BK506, HB⟩ := n_
   (try clear hb)
   (try clear hb2)
   (try clear hk)
   (try clear hi)
   (try clear ho0)
   refine hK.out _ _ ⟨(blk_cell BK491.out 0).trans rfl, (blk_cell BK491.out 1).trans rfl⟩ (fun hHeld => ?_)
   clear hK K
   refine norm_ (a' := ?_) ?_ ?_
   rotate_left
   ·
    show Act.put _ (some 48) _ = _
    simp only [Act.put, sA, sZ, sS, i64_w, i32_w]
    rfl
   exact norm_ (by simp only [putAll, Act.put, sA, sZ, sS]) (hCont (v504, gb506) _ ⟨hHeld, (rx HO505.out), (rx HO_6.out), (bx BK491.out), (bx BK506.out), GW506.out, GE506.out, NB491_506.out, NB506_491.out, lb⟩)
 rintro ⟨v504, gb506⟩ w32 ⟨hS_, h0_, h1_, h2_, h3_, h4_, h5_, h6_, h7_, h8_⟩; have n0_ : Aside0 (Kd.R k98 98 w32 w.heap.size (fun _ => True) v504 t503) := ⟨h0_⟩; have n1_ : Aside0 (Kd.R (Kd.int .i64) 3 w32 w.heap.size (fun _ => True) (.slice Ao27 x6_2.length co27) x6_2) := ⟨h1_⟩; have n2_ : Aside0 (w32.heap[gb491]? = some (.cells #[.int .i64 a0_0, .slice A0_1 l0_1.length c0_1] 24 (0, 0))) := ⟨h2_⟩; have n3_ : Aside0 (w32.heap[gb506]? = some (.cells #[.int .i64 0, .slice none 0 0] 24 (0, 0))) := ⟨h3_⟩; have n4_ : Aside0 (w.heap.size ≤ gb506) := ⟨h4_⟩; have n5_ : Aside0 (w.heap.size ≤ gb506) := ⟨h5_⟩; have n6_ : Aside0 (gb491 ≠ gb506) := ⟨h6_⟩; have n7_ : Aside0 (gb506 ≠ gb491) := ⟨h7_⟩; have n8_ : Aside0 (Below w.heap.size w w32) := ⟨h8_⟩; clear HO_6; clear BK491; clear HB; clear h0_ h1_ h2_ h3_ h4_ h5_ h6_ h7_ h8_; have HO505 := n0_; have HO_6 := n1_; have BK491 := n2_; have BK506 := n3_; have GW506 := n4_; have GE506 := n5_; have NB491_506 := n6_; have NB506_491 := n7_; have HB := n8_; clear n0_ n1_ n2_ n3_ n4_ n5_ n6_ n7_ n8_; have hHeld : w32.cell? ⟨gb491, 0, none⟩ = some (.int .i64 a0_0) ∧ w32.cell? ⟨gb491, 1, none⟩ = some (.slice A0_1 l0_1.length c0_1) := hS_; obtain ⟨Ao34, co34, eo34⟩ := Kd.R_slice HO505.out
 (first | subst eo34 | (injection eo34 with f1_ f2_ f3_; have f4_ := f1_.symm; have f5_ := f3_.symm; clear f1_ f2_ f3_; subst f4_; subst f5_))
 refine norm_ (a' := ?_) ?_ ?_
 rotate_left
 ·
  simp only [putAll, Act.put, sA, sZ, sS]
  rfl
 refine one_ (i := 8) (N := none) #[T, T, T, T, T, T, T, T, T] rfl rfl (one_of HT_.out (by kernel_rfl)) (by decide) (fun K hK => ?_)
 have hs33 : w32.cell? ⟨gb506, 0, none⟩ = some (.int .i64 0) := (blk_cell BK506.out 0).trans rfl; have hfs33 := bf BK506 0; have hns33_0 := NB491_506.out; have hms33_0 := NB506_491.out; have hs35 : w32.cell? ⟨gb506, 1, none⟩ = some (.slice none 0 0) := (blk_cell BK506.out 1).trans rfl; have hfs35 := bf BK506 1; have hns35_0 := NB491_506.out; have hms35_0 := NB506_491.out
 refine skip_ (w1 := ?_) (by rfl) rfl ?_ ?_
 rotate_left
 ·
  go_simp
  rfl
 refine hK.out _ _ ⟨((cell_far (p := ⟨gb506, _, none⟩) NB491_506.out _).trans (((cell_far (p := ⟨gb506, _, none⟩) NB491_506.out _).trans (hHeld.1)))), ((cell_far (p := ⟨gb506, _, none⟩) NB491_506.out _).trans (((cell_far (p := ⟨gb506, _, none⟩) NB491_506.out _).trans (hHeld.2))))⟩ (fun hHeld => ?_)
 clear hK K
 refine done_ (done_of HT_.out (by kernel_rfl)) ?_
 have ⟨_, _⟩ := nn NB506_491; have ⟨_, _, _, _⟩ := cf2 BK506
 try go_wp2_with (first | ((with_reducible refine gate_callee (f := 72) rfl ?_); refine gl 50 Try.func72 #[.agg #[.int .i64 t502, .slice Ao34 t503.length co34]] ?_; (with_reducible refine (compassref11_Below.calls k2 t502 _ _ t503 t507 _ ?side1 ?side2 A23.out).mono ?_); (case side1 => refine (Kd.R_reads' (e := 98) (base := w.heap.size) (ok := fun k_ => True) (n := t503.length) (c := co34) ?_).2.2; exact (by (with_reducible repeat (first | apply Kd.R_alloc | apply Kd.R_drewN | apply Kd.R_drew)); exact (Kd.R_mono (Kd.R_far (p := ⟨gb506, 1, none⟩) (Kd.R_far (p := ⟨gb506, 0, none⟩) (Kd.R_types HO505.out BK506.out (by decide)) (fun _ hk => hk.2) (.int .i64 t502)) (fun _ hk => hk.2) (.slice Ao34 t503.length co34)) (fun _ h_ => h_.1)))); (case side2 => exact (Kd.R_reads' HO505.out).2.1); rintro e w38 ⟨v508, rfl, ho0, hb⟩; refine ⟨_, rfl, ?_⟩; have n_ := a6 (Kd.R_elder' (by (with_reducible repeat (first | apply Kd.R_alloc | apply Kd.R_drewN | apply Kd.R_drew)); exact (Kd.R_mono (Kd.R_far (p := ⟨gb506, 1, none⟩) (Kd.R_far (p := ⟨gb506, 0, none⟩) (Kd.R_types HO_6.out BK506.out (by decide)) (fun _ hk => hk.2) (.int .i64 t502)) (fun _ hk => hk.2) (.slice Ao34 t503.length co34)) (fun _ h_ => h_.1))) (Kd.R_base ho0) hb) (Kd.R_below (by (with_reducible repeat (first | apply Kd.R_alloc | apply Kd.R_drewN | apply Kd.R_drew)); exact (Kd.R_mono (Kd.R_far (p := ⟨gb506, 1, none⟩) (Kd.R_far (p := ⟨gb506, 0, none⟩) (Kd.R_types HO505.out BK506.out (by decide)) (fun _ hk => hk.2) (.int .i64 t502)) (fun _ hk => hk.2) (.slice Ao34 t503.length co34)) (fun _ h_ => h_.1))) hb) (Kd.R_lower (Kd.R_new' ho0 (Kd.R_lt (by (with_reducible repeat (first | apply Kd.R_alloc | apply Kd.R_drewN | apply Kd.R_drew)); exact (Kd.R_mono (Kd.R_far (p := ⟨gb506, 1, none⟩) (Kd.R_far (p := ⟨gb506, 0, none⟩) (Kd.R_types HO_6.out BK506.out (by decide)) (fun _ hk => hk.2) (.int .i64 t502)) (fun _ hk => hk.2) (.slice Ao34 t503.length co34)) (fun _ h_ => h_.1))))) (below_size lb)) (blk_below (g := gb491) (o := .cells #[.int .i64 a0_0, .slice A0_1 l0_1.length c0_1] 24 (0, 0)) (by (with_reducible repeat (first | refine blk_drewN ?_ _ | refine blk_drew ?_ | refine blk_alloc ?_ _)); refine blk_far ?_ NB491_506.out _; (with_reducible repeat (first | refine blk_drewN ?_ _ | refine blk_drew ?_ | refine blk_alloc ?_ _)); refine blk_far ?_ NB491_506.out _; exact bx BK491.out) hb) (blk_below (g := gb506) (o := .cells #[.int .i64 t502, .slice Ao34 t503.length co34] 24 (0, 0)) (by (with_reducible repeat (first | refine blk_drewN ?_ _ | refine blk_drew ?_ | refine blk_alloc ?_ _)); refine blk_put (cs := #[.int .i64 t502, .slice none 0 0]) ?_ 1 _ rfl; (with_reducible repeat (first | refine blk_drewN ?_ _ | refine blk_drew ?_ | refine blk_alloc ?_ _)); refine blk_put (cs := #[.int .i64 0, .slice none 0 0]) ?_ 0 _ rfl; exact bx BK506.out) hb) (bl hb); clear HO_6 HO505 BK491 BK506 HB; obtain ⟨HO_6, HO505, HO509, BK491, BK506, HB⟩ := n_; clear hb; (try clear ho0); obtain ⟨Ao39, co39, eo39⟩ := Kd.R_slice HO509.out; subst eo39; have ⟨_, _, _, _⟩ := cf2 BK491) | ((with_reducible refine gate_dst (N := 56) rfl ?_); refine Kd.R_make (Kd.int .i64) _ 2 rfl (N := 56) rfl 25 _ _ rfl a0_0 rfl rfl Try.underlying25 (.int .i64 0) 8 info2 rfl (by decide) (by omega) 0 (ok := fun _ => True) (okp := fun _ => True) rfl (fun _ hk => hk) trivial (oda) (Nat.le_trans (Nat.mul_le_mul_right _ (oda : a0_0.toNat ≤ 35184372088832)) (by omega)) (Below.refl _ _) (Nat.le_refl _) ?_; intro v511 w41 ho42 hb hg_ hnew_; clear hg_ hnew_; (first | rw [← Ny510.out] at ho42 | (simp only [Int.reduceToNat] at ho42; rw [← Ny510.out] at ho42)); have n_ := a7 (ro HO_6 hb) (ro HO505 hb) (ro HO509 hb) (Kd.R_lower ho42 (below_size lb)) (bo BK491 hb) (bo BK506 hb) (bl hb); clear HO_6 HO505 HO509 BK491 BK506 HB; obtain ⟨HO_6, HO505, HO509, HO512, BK491, BK506, HB⟩ := n_; clear hb ho42))
 go_loopg [10] k2 (fun kq v10 w' => ∃ (x9_3 : List Int) (x10_3 : Int), v10 = .int .i64 x10_3 ∧ Aside0 (compassref11_LeastMean.l2 kq x6_2 x9_3 x10_3 a0_0 l0_1 t502 t503 = some (r1, r2)) ∧ Aside0 (kq ≤ k2) ∧ Aside0 (Kd.R (Kd.int .i64) 3 w' w.heap.size (fun _ => True) (.slice Ao27 x6_2.length co27) x6_2) ∧ Aside0 (Kd.R (Kd.int .i64) 2 w' w.heap.size (fun _ => True) v511 x9_3) ∧ Aside0 (Kd.R k98 98 w' w.heap.size (fun _ => True) (.slice Ao34 t503.length co34) t503) ∧ Aside0 (w'.heap[gb491]? = some (.cells #[.int .i64 a0_0, (.slice A0_1 l0_1.length c0_1)] 24 (0, 0))) ∧ Aside0 (w'.heap[gb506]? = some (.cells #[.int .i64 t502, (.slice Ao34 t503.length co34)] 24 (0, 0))) ∧ Aside0 (Below w.heap.size w w'))
 case atStart => exact ⟨(y510), (0), sr, H', ⟨Nat.le_refl _⟩, ⟨by exact rx (Kd.R_mono HO_6.out (fun _ hk => trivial))⟩, ⟨rx HO512.out⟩, ⟨rx HO505.out⟩, xb BK491, xb BK506, ⟨lb⟩⟩
 clear H'; obtain ⟨x9_3, x10_3, rfl, HA, HK3, HO_6, HO_9, HO_507001, BK491, BK506, HB⟩ := hrel
 cases gk with
 | zero => exact absurd HA.out (by simp [compassref11_LeastMean.l2])
 | succ k3 => ?_
 have H := HA.out; clear HA
 simp only [compassref11_LeastMean.l2] at H
 by_cases c43 : x10_3 < a0_0
 rotate_left
 ·
  rw [if_neg c43] at H; have c43b0 := decide_eq_false c43; clear c43
  simp only [Option.some.injEq, Prod.mk.injEq] at H
  obtain ⟨rfl, rfl⟩ := H; have ⟨_, _⟩ := nn NB491_506; have ⟨_, _, _, _⟩ := cf2 BK491
  go_wp2
  go_ret2
  exact ⟨_, _, by first | rfl | (simp [errW_none, errW_some] <;> rfl) | (simp [*, errW_none, errW_some] <;> rfl), by exact rx HO_6.out, by exact rx HO_9.out, lb⟩
 rw [if_pos c43] at H; have c43b0 := decide_eq_true c43; clear c43; have H' := ak H; clear H; have ⟨_, _⟩ := nn NB491_506; have ⟨_, _, _, _⟩ := cf2 BK491
 go_wp2
 go_loopg [11] k3 (fun kq v11 w' => ∃ (x9_4 : List Int) (x11_4 : Int), v11 = .int .i64 x11_4 ∧ Aside0 (compassref11_LeastMean.l3 kq x6_2 x9_4 x10_3 x11_4 a0_0 l0_1 t502 t503 = some (r1, r2)) ∧ Aside0 (kq ≤ k3) ∧ Aside0 (Kd.R (Kd.int .i64) 3 w' w.heap.size (fun _ => True) (.slice Ao27 x6_2.length co27) x6_2) ∧ Aside0 (Kd.R (Kd.int .i64) 2 w' w.heap.size (fun _ => True) v511 x9_4) ∧ Aside0 (Kd.R k98 98 w' w.heap.size (fun _ => True) (.slice Ao34 t503.length co34) t503) ∧ Aside0 (w'.heap[gb491]? = some (.cells #[.int .i64 a0_0, (.slice A0_1 l0_1.length c0_1)] 24 (0, 0))) ∧ Aside0 (w'.heap[gb506]? = some (.cells #[.int .i64 t502, (.slice Ao34 t503.length co34)] 24 (0, 0))) ∧ Aside0 (Below w.heap.size w w'))
 case atStart => exact ⟨(x9_3), (0), sr, H', ⟨Nat.le_refl _⟩, ⟨rx HO_6.out⟩, ⟨rx HO_9.out⟩, ⟨rx HO_507001.out⟩, xb BK491, xb BK506, ⟨lb⟩⟩
 clear H'; obtain ⟨x9_4, x11_4, rfl, HA, HK4, HO_6, HO_9, HO_507001, BK491, BK506, HB⟩ := hrel
 cases gk with
 | zero => exact absurd HA.out (by simp [compassref11_LeastMean.l3])
 | succ k4 => ?_
 have H := HA.out; clear HA
 simp only [compassref11_LeastMean.l3] at H
 by_cases c46 : x11_4 < (t503.length : Int)
 rotate_left
 ·
  rw [if_neg c46] at H; have c46b0 := decide_eq_false c46; clear c46; have H' := ak H; clear H; have ⟨_, _⟩ := nn NB506_491; have ⟨_, _, _, _⟩ := cf2 BK506
  go_wp2
  go_roundg k4
  case measure => have := HK1.out; have := HK2.out; have := HK3.out; have := HK4.out; omega
  case rel => exact ⟨(x9_4), (wrap64 (x10_3 + 1)), sr, H', ⟨by have := HK1.out; have := HK2.out; have := HK3.out; have := HK4.out; omega⟩, ⟨rx HO_6.out⟩, ⟨rx HO_9.out⟩, ⟨rx HO_507001.out⟩, xb BK491, xb BK506, ⟨lb⟩⟩
 rw [if_pos c46] at H; have c46b0 := decide_eq_true c46; clear c46; replace H := if3 H; obtain ⟨c47b0, c48b0, c49b0, H⟩ := H; replace H := if2 H; obtain ⟨c50b0, c51b0, H⟩ := H
 by_cases c52 : (wrap64 ((rd x9_4 ((rd_T98 t503 x11_4).f0)) + ((rd_T98 t503 x11_4).f3))) < (rd x9_4 ((rd_T98 t503 x11_4).f1))
 rotate_left
 ·
  rw [if_neg c52] at H; have c52b0 := decide_eq_false c52; clear c52; have H' := ak H; clear H; have ⟨_, _⟩ := nn NB506_491; have ⟨_, _, _, _⟩ := cf2 BK506; obtain ⟨p513, q513, ad513, e513, hx513_0, hx513_1, hx513_2, hx513_3⟩ := wq (at_T98 (Kd.R_reads' HO_507001.out).2.2 x11_4); cases e513
  try go_wp2_with (first | ((with_reducible refine gate_dst (N := 12) rfl ?_); refine bxe 12 #[.int .i64 0, .int .i64 0, .int .i64 0, .int .i64 0] 98 ?_; intro gb514 hg w67 hbox hb; have n_ := a13 (ro HO_6 hb) (ro HO_9 hb) (Kd.R_below (Kd.R_elderB (rx HO_507001.out) gb514 (Nat.le_of_eq hg.symm)) hb) (bo BK491 hb) (bo BK506 hb) (bl hb) hbox (gw w hg) (gw w hg) (nl hg BK491) (nr hg BK491) (nl hg BK506) (nr hg BK506); clear HO_6 HO_9 HO_507001 BK491 BK506 HB; obtain ⟨HO_6, HO_9, HO_507001, BK491, BK506, HB, BK514, GW514, GE514, NB491_514, NB514_491, NB506_514, NB514_506⟩ := n_; clear hb hbox hg; have ⟨_, _⟩ := nn NB514_491; have ⟨_, _⟩ := nn NB514_506; have ⟨_, _, _, _, _, _, _, _⟩ := cf4 BK514))
  have n0_ : Aside0 (Kd.R (Kd.int .i64) 3 ((((w67.setCell ⟨gb514, 0, none⟩ (.int .i64 ((rd_T98 t503 x11_4).f0))).setCell ⟨gb514, 1, none⟩ (.int .i64 ((rd_T98 t503 x11_4).f1))).setCell ⟨gb514, 2, none⟩ (.int .i64 ((rd_T98 t503 x11_4).f2))).setCell ⟨gb514, 3, none⟩ (.int .i64 ((rd_T98 t503 x11_4).f3))) w.heap.size (fun _ => True) (.slice Ao27 x6_2.length co27) x6_2) := ⟨by exact rx (Kd.R_mono (Kd.R_far (p := ⟨gb514, 3, none⟩) (Kd.R_far (p := ⟨gb514, 2, none⟩) (Kd.R_far (p := ⟨gb514, 1, none⟩) (Kd.R_far (p := ⟨gb514, 0, none⟩) (Kd.R_types HO_6.out BK514.out (by decide)) (fun _ hk => hk.2) (.int .i64 ((rd_T98 t503 x11_4).f0))) (fun _ hk => hk.2) (.int .i64 ((rd_T98 t503 x11_4).f1))) (fun _ hk => hk.2) (.int .i64 ((rd_T98 t503 x11_4).f2))) (fun _ hk => hk.2) (.int .i64 ((rd_T98 t503 x11_4).f3))) (fun _ hk => trivial))⟩
  have n1_ : Aside0 (Kd.R (Kd.int .i64) 2 ((((w67.setCell ⟨gb514, 0, none⟩ (.int .i64 ((rd_T98 t503 x11_4).f0))).setCell ⟨gb514, 1, none⟩ (.int .i64 ((rd_T98 t503 x11_4).f1))).setCell ⟨gb514, 2, none⟩ (.int .i64 ((rd_T98 t503 x11_4).f2))).setCell ⟨gb514, 3, none⟩ (.int .i64 ((rd_T98 t503 x11_4).f3))) w.heap.size (fun _ => True) v511 x9_4) := ⟨by exact rx (Kd.R_mono (Kd.R_far (p := ⟨gb514, 3, none⟩) (Kd.R_far (p := ⟨gb514, 2, none⟩) (Kd.R_far (p := ⟨gb514, 1, none⟩) (Kd.R_far (p := ⟨gb514, 0, none⟩) (Kd.R_types HO_9.out BK514.out (by decide)) (fun _ hk => hk.2) (.int .i64 ((rd_T98 t503 x11_4).f0))) (fun _ hk => hk.2) (.int .i64 ((rd_T98 t503 x11_4).f1))) (fun _ hk => hk.2) (.int .i64 ((rd_T98 t503 x11_4).f2))) (fun _ hk => hk.2) (.int .i64 ((rd_T98 t503 x11_4).f3))) (fun _ hk => trivial))⟩
  have n2_ : Aside0 (Kd.R k98 98 ((((w67.setCell ⟨gb514, 0, none⟩ (.int .i64 ((rd_T98 t503 x11_4).f0))).setCell ⟨gb514, 1, none⟩ (.int .i64 ((rd_T98 t503 x11_4).f1))).setCell ⟨gb514, 2, none⟩ (.int .i64 ((rd_T98 t503 x11_4).f2))).setCell ⟨gb514, 3, none⟩ (.int .i64 ((rd_T98 t503 x11_4).f3))) w.heap.size (fun k_ => k_ ≠ gb514) (.slice (some ad513) t503.length co34) t503) := ⟨by exact rx (Kd.R_mono (Kd.R_far (p := ⟨gb514, 3, none⟩) (Kd.R_far (p := ⟨gb514, 2, none⟩) (Kd.R_far (p := ⟨gb514, 1, none⟩) (Kd.R_far (p := ⟨gb514, 0, none⟩) (Kd.R_mono HO_507001.out (fun k_ hk => (⟨hk, hk.2⟩ : _ ∧ k_ ≠ gb514))) (fun _ hk => hk.2) (.int .i64 ((rd_T98 t503 x11_4).f0))) (fun _ hk => hk.2) (.int .i64 ((rd_T98 t503 x11_4).f1))) (fun _ hk => hk.2) (.int .i64 ((rd_T98 t503 x11_4).f2))) (fun _ hk => hk.2) (.int .i64 ((rd_T98 t503 x11_4).f3))) (fun _ hk => hk.1.2))⟩
  have n3_ : Aside0 (((((w67.setCell ⟨gb514, 0, none⟩ (.int .i64 ((rd_T98 t503 x11_4).f0))).setCell ⟨gb514, 1, none⟩ (.int .i64 ((rd_T98 t503 x11_4).f1))).setCell ⟨gb514, 2, none⟩ (.int .i64 ((rd_T98 t503 x11_4).f2))).setCell ⟨gb514, 3, none⟩ (.int .i64 ((rd_T98 t503 x11_4).f3))).heap[gb491]? = some (.cells #[.int .i64 a0_0, .slice A0_1 l0_1.length c0_1] 24 (0, 0))) := ⟨by (with_reducible repeat (first | refine blk_drewN ?_ _ | refine blk_drew ?_ | refine blk_alloc ?_ _)); refine blk_far ?_ NB491_514.out _; (with_reducible repeat (first | refine blk_drewN ?_ _ | refine blk_drew ?_ | refine blk_alloc ?_ _)); refine blk_far ?_ NB491_514.out _; (with_reducible repeat (first | refine blk_drewN ?_ _ | refine blk_drew ?_ | refine blk_alloc ?_ _)); refine blk_far ?_ NB491_514.out _; (with_reducible repeat (first | refine blk_drewN ?_ _ | refine blk_drew ?_ | refine blk_alloc ?_ _)); refine blk_far ?_ NB491_514.out _; exact bx BK491.out⟩
  have n4_ : Aside0 (((((w67.setCell ⟨gb514, 0, none⟩ (.int .i64 ((rd_T98 t503 x11_4).f0))).setCell ⟨gb514, 1, none⟩ (.int .i64 ((rd_T98 t503 x11_4).f1))).setCell ⟨gb514, 2, none⟩ (.int .i64 ((rd_T98 t503 x11_4).f2))).setCell ⟨gb514, 3, none⟩ (.int .i64 ((rd_T98 t503 x11_4).f3))).heap[gb506]? = some (.cells #[.int .i64 t502, .slice (some ad513) t503.length co34] 24 (0, 0))) := ⟨by (with_reducible repeat (first | refine blk_drewN ?_ _ | refine blk_drew ?_ | refine blk_alloc ?_ _)); refine blk_far ?_ NB506_514.out _; (with_reducible repeat (first | refine blk_drewN ?_ _ | refine blk_drew ?_ | refine blk_alloc ?_ _)); refine blk_far ?_ NB506_514.out _; (with_reducible repeat (first | refine blk_drewN ?_ _ | refine blk_drew ?_ | refine blk_alloc ?_ _)); refine blk_far ?_ NB506_514.out _; (with_reducible repeat (first | refine blk_drewN ?_ _ | refine blk_drew ?_ | refine blk_alloc ?_ _)); refine blk_far ?_ NB506_514.out _; exact bx BK506.out⟩
  have n5_ : Aside0 (((((w67.setCell ⟨gb514, 0, none⟩ (.int .i64 ((rd_T98 t503 x11_4).f0))).setCell ⟨gb514, 1, none⟩ (.int .i64 ((rd_T98 t503 x11_4).f1))).setCell ⟨gb514, 2, none⟩ (.int .i64 ((rd_T98 t503 x11_4).f2))).setCell ⟨gb514, 3, none⟩ (.int .i64 ((rd_T98 t503 x11_4).f3))).heap[gb514]? = some (.cells #[.int .i64 ((rd_T98 t503 x11_4).f0), .int .i64 ((rd_T98 t503 x11_4).f1), .int .i64 ((rd_T98 t503 x11_4).f2), .int .i64 ((rd_T98 t503 x11_4).f3)] 98 (0, 0))) := ⟨by (with_reducible repeat (first | refine blk_drewN ?_ _ | refine blk_drew ?_ | refine blk_alloc ?_ _)); refine blk_put (cs := #[.int .i64 ((rd_T98 t503 x11_4).f0), .int .i64 ((rd_T98 t503 x11_4).f1), .int .i64 ((rd_T98 t503 x11_4).f2), .int .i64 0]) ?_ 3 _ rfl; (with_reducible repeat (first | refine blk_drewN ?_ _ | refine blk_drew ?_ | refine blk_alloc ?_ _)); refine blk_put (cs := #[.int .i64 ((rd_T98 t503 x11_4).f0), .int .i64 ((rd_T98 t503 x11_4).f1), .int .i64 0, .int .i64 0]) ?_ 2 _ rfl; (with_reducible repeat (first | refine blk_drewN ?_ _ | refine blk_drew ?_ | refine blk_alloc ?_ _)); refine blk_put (cs := #[.int .i64 ((rd_T98 t503 x11_4).f0), .int .i64 0, .int .i64 0, .int .i64 0]) ?_ 1 _ rfl; (with_reducible repeat (first | refine blk_drewN ?_ _ | refine blk_drew ?_ | refine blk_alloc ?_ _)); refine blk_put (cs := #[.int .i64 0, .int .i64 0, .int .i64 0, .int .i64 0]) ?_ 0 _ rfl; exact bx BK514.out⟩
  have n6_ : Aside0 (Below w.heap.size w ((((w67.setCell ⟨gb514, 0, none⟩ (.int .i64 ((rd_T98 t503 x11_4).f0))).setCell ⟨gb514, 1, none⟩ (.int .i64 ((rd_T98 t503 x11_4).f1))).setCell ⟨gb514, 2, none⟩ (.int .i64 ((rd_T98 t503 x11_4).f2))).setCell ⟨gb514, 3, none⟩ (.int .i64 ((rd_T98 t503 x11_4).f3)))) := ⟨lb⟩
  (try clear HO_6)
  (try clear HO_9)
  (try clear HO_507001)
  (try clear BK491)
  (try clear BK506)
  (try clear BK514)
  (try clear HB)
  generalize ((((w67.setCell ⟨gb514, 0, none⟩ (.int .i64 ((rd_T98 t503 x11_4).f0))).setCell ⟨gb514, 1, none⟩ (.int .i64 ((rd_T98 t503 x11_4).f1))).setCell ⟨gb514, 2, none⟩ (.int .i64 ((rd_T98 t503 x11_4).f2))).setCell ⟨gb514, 3, none⟩ (.int .i64 ((rd_T98 t503 x11_4).f3))) = w71 at n0_ n1_ n2_ n3_ n4_ n5_ n6_ ⊢
  have HO_6 := n0_; have HO_9 := n1_; have HO_507001 := n2_; have BK491 := n3_; have BK506 := n4_; have BK514 := n5_; have HB := n6_; clear n0_ n1_ n2_ n3_ n4_ n5_ n6_; have n_ := a7 (Kd.R_drew HO_6.out) (Kd.R_drew HO_9.out) (Kd.R_drew HO_507001.out) (blk_drew BK491.out) (blk_drew BK506.out) (blk_drew BK514.out) (below_drew1 HB.out); clear HO_6 HO_9 HO_507001 BK491 BK506 BK514 HB; obtain ⟨HO_6, HO_9, HO_507001, BK491, BK506, BK514, HB⟩ := n_; obtain ⟨Ao73, co73, eo73⟩ := Kd.R_slice HO_9.out
  (first | subst eo73 | (injection eo73 with f1_ f2_ f3_; have f4_ := f1_.symm; have f5_ := f3_.symm; clear f1_ f2_ f3_; subst f4_; subst f5_))
  obtain ⟨p515, q515, ad515, e515, hx515_0⟩ := wq (Kd.at_int (Kd.R_reads' HO_9.out).2.2 ((rd_T98 t503 x11_4).f0)); cases e515; obtain ⟨p516, q516, ad516, e516, hx516_0⟩ := wq (Kd.at_int (Kd.R_reads' HO_9.out).2.2 ((rd_T98 t503 x11_4).f1))
  obtain rfl : ad515 = ad516 := (by injection e516)
  refine stC 14 [] (cX (bc0 BK514) (cX (bc1 BK514) (cX (bc2 BK514) (cX (bc3 BK514) (cX hx515_0 (cY hx516_0)))))) compassref11_LeastMean.tab21 compassref11_LeastMean.bits21 fun hHeld HT_ HW_ => ?_
  generalize w71.drew = w72 at HO_6 HO_9 HO_507001 BK491 BK506 BK514 HB hx515_0 hx516_0 hHeld ⊢
  refine pv HT_ 0 75 ?_; refine pv HT_ 1 76 ?_; refine pv HT_ 5 80 ?_; refine pv HT_ 8 83 ?_; refine pv HT_ 9 84 ?_; refine tv HT_ HW_ hHeld 2 77 ?_; refine pv HT_ 3 78 ?_; refine tv HT_ HW_ hHeld 4 79 ?_; refine tv HT_ HW_ hHeld 6 81 ?_; refine pv HT_ 7 82 ?_; refine tv HT_ HW_ hHeld 10 85 ?_; refine pv HT_ 11 86 ?_; refine tv HT_ HW_ hHeld 12 87 ?_; refine pv HT_ 13 88 ?_
  refine done_ (done_of HT_.out (by kernel_rfl)) ?_
  try go_wp2
  go_roundg k4
  case measure => have := HK1.out; have := HK2.out; have := HK3.out; have := HK4.out; omega
  case rel => exact ⟨(x9_4), (wrap64 (x11_4 + 1)), sr, H', ⟨by have := HK1.out; have := HK2.out; have := HK3.out; have := HK4.out; omega⟩, ⟨rx HO_6.out⟩, ⟨rx HO_9.out⟩, ⟨by exact rx (Kd.R_mono HO_507001.out (fun _ hk => trivial))⟩, xb BK491, xb BK506, ⟨lb⟩⟩
 rw [if_pos c52] at H; have c52b0 := decide_eq_true c52; clear c52; obtain ⟨y518, hy518⟩ : ∃ y_ : List Int, y_ = (x9_4.set (((rd_T98 t503 x11_4).f1) : Int).toNat (wrap64 ((rd x9_4 ((rd_T98 t503 x11_4).f0)) + ((rd_T98 t503 x11_4).f3)))) := ⟨_, rfl⟩; replace H : (compassref11_LeastMean.l3 k4 x6_2 y518 x10_3 (wrap64 (x11_4 + 1)) a0_0 l0_1 t502 t503) = some (r1, r2) := by first | (rw [hy518]; exact H) | exact H
 have Ny518 := ak hy518; clear hy518; have H' := ak H; clear H; have ⟨_, _⟩ := nn NB506_491; have ⟨_, _, _, _⟩ := cf2 BK506; obtain ⟨p513, q513, ad513, e513, hx513_0, hx513_1, hx513_2, hx513_3⟩ := wq (at_T98 (Kd.R_reads' HO_507001.out).2.2 x11_4); cases e513
 try go_wp2_with (first | ((with_reducible refine gate_dst (N := 12) rfl ?_); refine bxe 12 #[.int .i64 0, .int .i64 0, .int .i64 0, .int .i64 0] 98 ?_; intro gb514 hg w56 hbox hb; have n_ := a13 (ro HO_6 hb) (ro HO_9 hb) (Kd.R_below (Kd.R_elderB (rx HO_507001.out) gb514 (Nat.le_of_eq hg.symm)) hb) (bo BK491 hb) (bo BK506 hb) (bl hb) hbox (gw w hg) (gw w hg) (nl hg BK491) (nr hg BK491) (nl hg BK506) (nr hg BK506); clear HO_6 HO_9 HO_507001 BK491 BK506 HB; obtain ⟨HO_6, HO_9, HO_507001, BK491, BK506, HB, BK514, GW514, GE514, NB491_514, NB514_491, NB506_514, NB514_506⟩ := n_; clear hb hbox hg; have ⟨_, _⟩ := nn NB514_491; have ⟨_, _⟩ := nn NB514_506; have ⟨_, _, _, _, _, _, _, _⟩ := cf4 BK514))
 have n0_ : Aside0 (Kd.R (Kd.int .i64) 3 ((((w56.setCell ⟨gb514, 0, none⟩ (.int .i64 ((rd_T98 t503 x11_4).f0))).setCell ⟨gb514, 1, none⟩ (.int .i64 ((rd_T98 t503 x11_4).f1))).setCell ⟨gb514, 2, none⟩ (.int .i64 ((rd_T98 t503 x11_4).f2))).setCell ⟨gb514, 3, none⟩ (.int .i64 ((rd_T98 t503 x11_4).f3))) w.heap.size (fun _ => True) (.slice Ao27 x6_2.length co27) x6_2) := ⟨by exact rx (Kd.R_mono (Kd.R_far (p := ⟨gb514, 3, none⟩) (Kd.R_far (p := ⟨gb514, 2, none⟩) (Kd.R_far (p := ⟨gb514, 1, none⟩) (Kd.R_far (p := ⟨gb514, 0, none⟩) (Kd.R_types HO_6.out BK514.out (by decide)) (fun _ hk => hk.2) (.int .i64 ((rd_T98 t503 x11_4).f0))) (fun _ hk => hk.2) (.int .i64 ((rd_T98 t503 x11_4).f1))) (fun _ hk => hk.2) (.int .i64 ((rd_T98 t503 x11_4).f2))) (fun _ hk => hk.2) (.int .i64 ((rd_T98 t503 x11_4).f3))) (fun _ hk => trivial))⟩
 have n1_ : Aside0 (Kd.R (Kd.int .i64) 2 ((((w56.setCell ⟨gb514, 0, none⟩ (.int .i64 ((rd_T98 t503 x11_4).f0))).setCell ⟨gb514, 1, none⟩ (.int .i64 ((rd_T98 t503 x11_4).f1))).setCell ⟨gb514, 2, none⟩ (.int .i64 ((rd_T98 t503 x11_4).f2))).setCell ⟨gb514, 3, none⟩ (.int .i64 ((rd_T98 t503 x11_4).f3))) w.heap.size (fun _ => True) v511 x9_4) := ⟨by exact rx (Kd.R_mono (Kd.R_far (p := ⟨gb514, 3, none⟩) (Kd.R_far (p := ⟨gb514, 2, none⟩) (Kd.R_far (p := ⟨gb514, 1, none⟩) (Kd.R_far (p := ⟨gb514, 0, none⟩) (Kd.R_types HO_9.out BK514.out (by decide)) (fun _ hk => hk.2) (.int .i64 ((rd_T98 t503 x11_4).f0))) (fun _ hk => hk.2) (.int .i64 ((rd_T98 t503 x11_4).f1))) (fun _ hk => hk.2) (.int .i64 ((rd_T98 t503 x11_4).f2))) (fun _ hk => hk.2) (.int .i64 ((rd_T98 t503 x11_4).f3))) (fun _ hk => trivial))⟩
 have n2_ : Aside0 (Kd.R k98 98 ((((w56.setCell ⟨gb514, 0, none⟩ (.int .i64 ((rd_T98 t503 x11_4).f0))).setCell ⟨gb514, 1, none⟩ (.int .i64 ((rd_T98 t503 x11_4).f1))).setCell ⟨gb514, 2, none⟩ (.int .i64 ((rd_T98 t503 x11_4).f2))).setCell ⟨gb514, 3, none⟩ (.int .i64 ((rd_T98 t503 x11_4).f3))) w.heap.size (fun k_ => k_ ≠ gb514) (.slice (some ad513) t503.length co34) t503) := ⟨by exact rx (Kd.R_mono (Kd.R_far (p := ⟨gb514, 3, none⟩) (Kd.R_far (p := ⟨gb514, 2, none⟩) (Kd.R_far (p := ⟨gb514, 1, none⟩) (Kd.R_far (p := ⟨gb514, 0, none⟩) (Kd.R_mono HO_507001.out (fun k_ hk => (⟨hk, hk.2⟩ : _ ∧ k_ ≠ gb514))) (fun _ hk => hk.2) (.int .i64 ((rd_T98 t503 x11_4).f0))) (fun _ hk => hk.2) (.int .i64 ((rd_T98 t503 x11_4).f1))) (fun _ hk => hk.2) (.int .i64 ((rd_T98 t503 x11_4).f2))) (fun _ hk => hk.2) (.int .i64 ((rd_T98 t503 x11_4).f3))) (fun _ hk => hk.1.2))⟩
 have n3_ : Aside0 (((((w56.setCell ⟨gb514, 0, none⟩ (.int .i64 ((rd_T98 t503 x11_4).f0))).setCell ⟨gb514, 1, none⟩ (.int .i64 ((rd_T98 t503 x11_4).f1))).setCell ⟨gb514, 2, none⟩ (.int .i64 ((rd_T98 t503 x11_4).f2))).setCell ⟨gb514, 3, none⟩ (.int .i64 ((rd_T98 t503 x11_4).f3))).heap[gb491]? = some (.cells #[.int .i64 a0_0, .slice A0_1 l0_1.length c0_1] 24 (0, 0))) := ⟨by (with_reducible repeat (first | refine blk_drewN ?_ _ | refine blk_drew ?_ | refine blk_alloc ?_ _)); refine blk_far ?_ NB491_514.out _; (with_reducible repeat (first | refine blk_drewN ?_ _ | refine blk_drew ?_ | refine blk_alloc ?_ _)); refine blk_far ?_ NB491_514.out _; (with_reducible repeat (first | refine blk_drewN ?_ _ | refine blk_drew ?_ | refine blk_alloc ?_ _)); refine blk_far ?_ NB491_514.out _; (with_reducible repeat (first | refine blk_drewN ?_ _ | refine blk_drew ?_ | refine blk_alloc ?_ _)); refine blk_far ?_ NB491_514.out _; exact bx BK491.out⟩
 have n4_ : Aside0 (((((w56.setCell ⟨gb514, 0, none⟩ (.int .i64 ((rd_T98 t503 x11_4).f0))).setCell ⟨gb514, 1, none⟩ (.int .i64 ((rd_T98 t503 x11_4).f1))).setCell ⟨gb514, 2, none⟩ (.int .i64 ((rd_T98 t503 x11_4).f2))).setCell ⟨gb514, 3, none⟩ (.int .i64 ((rd_T98 t503 x11_4).f3))).heap[gb506]? = some (.cells #[.int .i64 t502, .slice (some ad513) t503.length co34] 24 (0, 0))) := ⟨by (with_reducible repeat (first | refine blk_drewN ?_ _ | refine blk_drew ?_ | refine blk_alloc ?_ _)); refine blk_far ?_ NB506_514.out _; (with_reducible repeat (first | refine blk_drewN ?_ _ | refine blk_drew ?_ | refine blk_alloc ?_ _)); refine blk_far ?_ NB506_514.out _; (with_reducible repeat (first | refine blk_drewN ?_ _ | refine blk_drew ?_ | refine blk_alloc ?_ _)); refine blk_far ?_ NB506_514.out _; (with_reducible repeat (first | refine blk_drewN ?_ _ | refine blk_drew ?_ | refine blk_alloc ?_ _)); refine blk_far ?_ NB506_514.out _; exact bx BK506.out⟩
 have n5_ : Aside0 (((((w56.setCell ⟨gb514, 0, none⟩ (.int .i64 ((rd_T98 t503 x11_4).f0))).setCell ⟨gb514, 1, none⟩ (.int .i64 ((rd_T98 t503 x11_4).f1))).setCell ⟨gb514, 2, none⟩ (.int .i64 ((rd_T98 t503 x11_4).f2))).setCell ⟨gb514, 3, none⟩ (.int .i64 ((rd_T98 t503 x11_4).f3))).heap[gb514]? = some (.cells #[.int .i64 ((rd_T98 t503 x11_4).f0), .int .i64 ((rd_T98 t503 x11_4).f1), .int .i64 ((rd_T98 t503 x11_4).f2), .int .i64 ((rd_T98 t503 x11_4).f3)] 98 (0, 0))) := ⟨by (with_reducible repeat (first | refine blk_drewN ?_ _ | refine blk_drew ?_ | refine blk_alloc ?_ _)); refine blk_put (cs := #[.int .i64 ((rd_T98 t503 x11_4).f0), .int .i64 ((rd_T98 t503 x11_4).f1), .int .i64 ((rd_T98 t503 x11_4).f2), .int .i64 0]) ?_ 3 _ rfl; (with_reducible repeat (first | refine blk_drewN ?_ _ | refine blk_drew ?_ | refine blk_alloc ?_ _)); refine blk_put (cs := #[.int .i64 ((rd_T98 t503 x11_4).f0), .int .i64 ((rd_T98 t503 x11_4).f1), .int .i64 0, .int .i64 0]) ?_ 2 _ rfl; (with_reducible repeat (first | refine blk_drewN ?_ _ | refine blk_drew ?_ | refine blk_alloc ?_ _)); refine blk_put (cs := #[.int .i64 ((rd_T98 t503 x11_4).f0), .int .i64 0, .int .i64 0, .int .i64 0]) ?_ 1 _ rfl; (with_reducible repeat (first | refine blk_drewN ?_ _ | refine blk_drew ?_ | refine blk_alloc ?_ _)); refine blk_put (cs := #[.int .i64 0, .int .i64 0, .int .i64 0, .int .i64 0]) ?_ 0 _ rfl; exact bx BK514.out⟩
 have n6_ : Aside0 (Below w.heap.size w ((((w56.setCell ⟨gb514, 0, none⟩ (.int .i64 ((rd_T98 t503 x11_4).f0))).setCell ⟨gb514, 1, none⟩ (.int .i64 ((rd_T98 t503 x11_4).f1))).setCell ⟨gb514, 2, none⟩ (.int .i64 ((rd_T98 t503 x11_4).f2))).setCell ⟨gb514, 3, none⟩ (.int .i64 ((rd_T98 t503 x11_4).f3)))) := ⟨lb⟩
 (try clear HO_6)
 (try clear HO_9)
 (try clear HO_507001)
 (try clear BK491)
 (try clear BK506)
 (try clear BK514)
 (try clear HB)
 generalize ((((w56.setCell ⟨gb514, 0, none⟩ (.int .i64 ((rd_T98 t503 x11_4).f0))).setCell ⟨gb514, 1, none⟩ (.int .i64 ((rd_T98 t503 x11_4).f1))).setCell ⟨gb514, 2, none⟩ (.int .i64 ((rd_T98 t503 x11_4).f2))).setCell ⟨gb514, 3, none⟩ (.int .i64 ((rd_T98 t503 x11_4).f3))) = w60 at n0_ n1_ n2_ n3_ n4_ n5_ n6_ ⊢
 have HO_6 := n0_; have HO_9 := n1_; have HO_507001 := n2_; have BK491 := n3_; have BK506 := n4_; have BK514 := n5_; have HB := n6_; clear n0_ n1_ n2_ n3_ n4_ n5_ n6_; have n_ := a7 (Kd.R_drew HO_6.out) (Kd.R_drew HO_9.out) (Kd.R_drew HO_507001.out) (blk_drew BK491.out) (blk_drew BK506.out) (blk_drew BK514.out) (below_drew1 HB.out); clear HO_6 HO_9 HO_507001 BK491 BK506 BK514 HB; obtain ⟨HO_6, HO_9, HO_507001, BK491, BK506, BK514, HB⟩ := n_; obtain ⟨Ao62, co62, eo62⟩ := Kd.R_slice HO_9.out
 (first | subst eo62 | (injection eo62 with f1_ f2_ f3_; have f4_ := f1_.symm; have f5_ := f3_.symm; clear f1_ f2_ f3_; subst f4_; subst f5_))
 obtain ⟨p515, q515, ad515, e515, hx515_0⟩ := wq (Kd.at_int (Kd.R_reads' HO_9.out).2.2 ((rd_T98 t503 x11_4).f0)); cases e515; obtain ⟨p516, q516, ad516, e516, hx516_0⟩ := wq (Kd.at_int (Kd.R_reads' HO_9.out).2.2 ((rd_T98 t503 x11_4).f1))
 obtain rfl : ad515 = ad516 := (by injection e516)
 refine stC 14 [] (cX (bc0 BK514) (cX (bc1 BK514) (cX (bc2 BK514) (cX (bc3 BK514) (cX hx515_0 (cY hx516_0)))))) compassref11_LeastMean.tab21 compassref11_LeastMean.bits21 fun hHeld HT_ HW_ => ?_
 generalize w60.drew = w61 at HO_6 HO_9 HO_507001 BK491 BK506 BK514 HB hx515_0 hx516_0 hHeld ⊢
 refine pv HT_ 0 75 ?_; refine pv HT_ 1 76 ?_; refine pv HT_ 5 80 ?_; refine pv HT_ 8 83 ?_; refine pv HT_ 9 84 ?_; refine tv HT_ HW_ hHeld 2 77 ?_; refine pv HT_ 3 78 ?_; refine tv HT_ HW_ hHeld 4 79 ?_; refine tv HT_ HW_ hHeld 6 81 ?_; refine pv HT_ 7 82 ?_; refine tv HT_ HW_ hHeld 10 85 ?_; refine pv HT_ 11 86 ?_; refine tv HT_ HW_ hHeld 12 87 ?_; refine pv HT_ 13 88 ?_
 refine done_ (done_of HT_.out (by kernel_rfl)) ?_
 try go_wp2
 have n_ := a7 (Kd.R_drew HO_6.out) (Kd.R_drew HO_9.out) (Kd.R_drew HO_507001.out) (blk_drew BK491.out) (blk_drew BK506.out) (blk_drew BK514.out) (below_drew1 HB.out); clear HO_6 HO_9 HO_507001 BK491 BK506 BK514 HB; obtain ⟨HO_6, HO_9, HO_507001, BK491, BK506, BK514, HB⟩ := n_; obtain ⟨p517, q517, ad517, e517, hx517_0⟩ := wq (Kd.at_int (Kd.R_reads' HO_9.out).2.2 ((rd_T98 t503 x11_4).f0))
 obtain rfl : ad515 = ad517 := (by injection e517); have p53 : 0 ≤ (((rd_T98 t503 x11_4).f1) : Int) := oda; have q53 : (((rd_T98 t503 x11_4).f1) : Int) < ((x9_4.length : Int) : Int) := oda
 obtain ⟨go53, co53, eo53, gb53, gl53, cl53, HG53⟩ := Kd.R_form HO_9.out (by omega)
 (first | cases eo53 | (injection eo53 with ea_ en_ ec_; (first | subst ea_ | (injection ea_ with ea_; subst ea_)); subst ec_; clear en_))
 have GB53 := ak gb53; have GG53 := ak HG53; clear gb53 gl53 HG53
 (first | simp only [add_plain] at hx515_0 | skip)
 (first | simp only [add_plain] at hx516_0 | skip)
 (first | simp only [add_plain] at hx517_0 | skip)
 obtain ⟨hx53_0, hf53_0⟩ := Kd.R_celln 0 HO_9.out (((rd_T98 t503 x11_4).f1) : Int) p53 q53; replace p53 := eq_true p53; replace q53 := eq_true q53; have HP64 := Kd.R_putn HO_9.out (((rd_T98 t503 x11_4).f1) : Int) (wrap64 ((rd x9_4 ((rd_T98 t503 x11_4).f0)) + ((rd_T98 t503 x11_4).f3))); rw [← Ny518.out] at HP64; have HQ64 := ak HP64; clear HP64
 refine stC 13 [12] (cX (bc0 BK514) (cX (bc1 BK514) (cX (bc2 BK514) (cX (bc3 BK514) (cY hx517_0))))) compassref11_LeastMean.tab22 compassref11_LeastMean.bits22 fun hHeld HT_ HW_ => ?_
 generalize w61.drew = w63 at HO_6 HO_9 HO_507001 BK491 BK506 BK514 HB GG53 HQ64 hf53_0 hx515_0 hx516_0 hx517_0 hx53_0 hHeld ⊢
 refine pv HT_ 0 89 ?_; refine pv HT_ 1 90 ?_; refine pv HT_ 3 92 ?_; refine pv HT_ 4 93 ?_; refine pv HT_ 8 97 ?_; refine tv HT_ HW_ hHeld 2 91 ?_; refine tv HT_ HW_ hHeld 5 94 ?_; refine pv HT_ 6 95 ?_; refine tv HT_ HW_ hHeld 7 96 ?_; refine tv HT_ HW_ hHeld 9 98 ?_; refine pv HT_ 10 99 ?_; refine pv HT_ 11 100 ?_
 refine last_ (i := 12) (N := none) #[T, T, T, T, T, T, T, T, T, T, T, T, T] rfl rfl (one_of HT_.out (by kernel_rfl)) (by decide) (fun K hK => ?_)
 refine skip_ (w1 := ?_) (by rfl) rfl ?_ ?_
 rotate_left
 ·
  go_simp
  rfl
 refine hK.out _ _ ?_
 clear hK K
 refine done_ (done_of HT_.out (by kernel_rfl)) ?_
 try go_wp2
 go_roundg k4
 case measure => have := HK1.out; have := HK2.out; have := HK3.out; have := HK4.out; omega
 case rel => exact ⟨(y518), (wrap64 (x11_4 + 1)), sr, H', ⟨by have := HK1.out; have := HK2.out; have := HK3.out; have := HK4.out; omega⟩, ⟨by exact rx (Kd.R_mono (Kd.R_far (p := ⟨go53, (((rd_T98 t503 x11_4).f1) : Int).toNat, none⟩) (Kd.R_types HO_6.out GG53.out (by decide)) (fun _ hk => hk.2) (.int .i64 (wrap64 ((rd x9_4 ((rd_T98 t503 x11_4).f0)) + ((rd_T98 t503 x11_4).f3))))) (fun _ hk => trivial))⟩, ⟨by (with_reducible repeat (first | apply Kd.R_alloc | apply Kd.R_drewN | apply Kd.R_drew)); exact HQ64.out⟩, ⟨by exact rx (Kd.R_mono (Kd.R_far (p := ⟨go53, (((rd_T98 t503 x11_4).f1) : Int).toNat, none⟩) (Kd.R_types HO_507001.out GG53.out (by decide)) (fun _ hk => hk.2) (.int .i64 (wrap64 ((rd x9_4 ((rd_T98 t503 x11_4).f0)) + ((rd_T98 t503 x11_4).f3))))) (fun _ hk => trivial))⟩, ⟨by (with_reducible repeat (first | refine blk_drewN ?_ _ | refine blk_drew ?_ | refine blk_alloc ?_ _)); refine blk_far ?_ (by have h_ := Kd.R_ne HO_9.out BK491.out (by decide); intro e_; exact h_ (by rw [e_]; rfl)) _; exact bx BK491.out⟩, ⟨by (with_reducible repeat (first | refine blk_drewN ?_ _ | refine blk_drew ?_ | refine blk_alloc ?_ _)); refine blk_far ?_ (by have h_ := Kd.R_ne HO_9.out BK506.out (by decide); intro e_; exact h_ (by rw [e_]; rfl)) _; exact bx BK506.out⟩, ⟨by repeat (first | (with_reducible first | exact HB.out | apply below_alloc | apply pw_below_drewN | apply below_drew1 | refine below_set ?_ GB53.out | refine below_set ?_ GE491.out | refine below_set ?_ GE506.out | refine below_set ?_ GE514.out) | exact HB.out)⟩⟩
end Go.Proofs.Ytkdoihcjhccliaa.Q
