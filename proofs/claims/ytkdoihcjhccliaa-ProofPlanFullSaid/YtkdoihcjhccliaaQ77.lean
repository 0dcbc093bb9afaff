import Derived.Test.YtkdoihcjhccliaaV4
import Derived.Test.YtkdoihcjhccliaaK4
import Derived.Test.YtkdoihcjhccliaaQ0
import Derived.Test.YtkdoihcjhccliaaQ3
import Derived.Test.YtkdoihcjhccliaaQ20
import Derived.Test.YtkdoihcjhccliaaQ60
import Derived.Test.YtkdoihcjhccliaaQ62
import Derived.Test.YtkdoihcjhccliaaQ63
import Derived.Test.YtkdoihcjhccliaaQ64
import Derived.Test.YtkdoihcjhccliaaQ66
import Derived.Test.YtkdoihcjhccliaaQ67
import Derived.Test.YtkdoihcjhccliaaQ73
import Derived.Test.YtkdoihcjhccliaaQ76
namespace Go.Proofs.Ytkdoihcjhccliaa.Q
open Go.RowKit Go.Proofs.YtkdoihcjhccliaaW.PrintWords Go.Proofs.YtkdoihcjhccliaaW.PrintLast Go.Proofs.YtkdoihcjhccliaaW.PrintMore
attribute [local go_sem] max2_int min2_int max_two min_two max_three min_three max_four min_four   -- for this text's walks alone
set_option linter.unusedVariables false
set_option linter.unusedSimpArgs false

/-! ### compassref11_MinCost: function 34 -/
mutual
def compassref11_MinCost.l0 : Nat → List Int → Int → Int → Int → Int → List (S98) → Int → List (S98) → Option (List Int × List Int × List Bool × Bool)
  | 0, _, _, _, _, _, _, _, _ => none
  | k + 1, x1, x9, x10, x11, x596000, x596001, x601000, x601001 => if x11 < x596000 then (if 0 ≤ x11 then (if x11 < (x1.length : Int) then (if (rd x1 x11) > 0 then (if x601001.length < 4398046511104 then (compassref11_MinCost.l0 k x1 x9 (wrap64 (x10 + (rd x1 x11))) (wrap64 (x11 + 1)) x596000 x596001 x601000 (x601001 ++ [(⟨x9, x11, rd x1 x11, 0⟩ : S98)])) else (none)) else (if x601001.length < 4398046511104 then (compassref11_MinCost.l0 k x1 x9 x10 (wrap64 (x11 + 1)) x596000 x596001 x601000 (x601001 ++ [(⟨x11, wrap64 (x9 + 1), wrap64 (-(rd x1 x11)), 0⟩ : S98)])) else (none))) else (none)) else (none)) else ((compassref11_MaxFlow.f k x601000 x601001 x9 (wrap64 (x9 + 1))).bind fun bt611 => ((compassref11_Out.f k x601000 x601001 bt611.1 x9).bind fun t617 => (if t617 < x10 then (if 0 ≤ x596000 then (if x596000 ≤ (bt611.2.length : Int) then (some (([] : List Int), ([] : List Int), (bt611.2.take (x596000 : Int).toNat), false)) else (none)) else (none)) else (if 0 ≤ (x596001.length : Int) then (if (x596001.length : Int) ≤ (bt611.1.length : Int) then (compassref11_MinCost.l1 k (bt611.1.take ((x596001.length : Int) : Int).toNat) x596000 x596001) else (none)) else (none)))))
def compassref11_MinCost.l1 : Nat → List Int → Int → List (S98) → Option (List Int × List Int × List Bool × Bool)
  | 0, _, _, _ => none
  | k + 1, x12, x596000, x596001 => (compassref11_Residual.f k x596000 x596001 x12).bind fun bt624 => ((compassref11_useful.f k bt624.1 bt624.2).bind fun bt628 => ((compassref11_Below.f k bt628.1 bt628.2.1).bind fun t636 => (if (t636.length : Int) = 0 then ((compassref08_Potentials.f k bt628.1 bt628.2.1).bind fun bt639 => (some (x12, bt639.1, ([] : List Bool), true))) else (compassref11_MinCost.l2 k x12 bt628.2.2 t636 ([] : List Int) 0 x596000 x596001))))
def compassref11_MinCost.l2 : Nat → List Int → List Int → List Int → List Int → Int → Int → List (S98) → Option (List Int × List Int × List Bool × Bool)
  | 0, _, _, _, _, _, _, _ => none
  | k + 1, x12, x15, x16, x19, x20, x596000, x596001 => if x20 < (x16.length : Int) then (if 0 ≤ x20 then (if 0 ≤ (rd x16 x20) then (if (rd x16 x20) < (x15.length : Int) then (if x19.length < 17592186044416 then (compassref11_MinCost.l2 k x12 x15 x16 (x19 ++ [rd x15 (rd x16 x20)]) (wrap64 (x20 + 1)) x596000 x596001) else (none)) else (none)) else (none)) else (none)) else ((compassref11_Residual.f k x596000 x596001 x12).bind fun bt648 => ((compassref11_room.f k bt648.1 bt648.2 x19).bind fun t652 => ((compassref11_change.f k x12 x19 t652).bind fun t653 => (compassref11_MinCost.l1 k t653 x596000 x596001))))
end
def compassref11_MinCost.f (k : Nat) (a0_0 : Int) (l0_1 : List (S98)) (l1 : List Int) : Option (List Int × List Int × List Bool × Bool) := (compassref03_Copy.f k a0_0 l0_1).bind fun bt596 => (compassref11_MinCost.l0 k l1 a0_0 0 0 a0_0 l0_1 (wrap64 (bt596.1 + 2)) bt596.2)
def compassref11_MinCost.T9 : Bool × List (List Nat × List Nat) := (true, [([], []), ([0], [0]), ([], []), ([], []), ([], []), ([], []), ([4, 5], [4, 5]), ([6], [6]), ([2, 3, 7], [2, 3, 7]), ([8], [8]), ([1, 9], [1, 9]), ([0, 1, 2, 3, 4, 5, 6, 7, 8, 9, 10], []), ([11, 10, 10, 0, 1, 2, 3, 4, 5, 6, 7, 8, 9, 10], [10, 11])])
def compassref11_MinCost.B9 : List Nat := [0, 1, 0, 0, 0, 0, 48, 112, 252, 508, 1023, 2047, 4095]
theorem compassref11_MinCost.tab9 : rtab .any (opsOf Try.f34 9) = compassref11_MinCost.T9 := by kernel_rfl
theorem compassref11_MinCost.bits9 : waitsOk compassref11_MinCost.T9.2 compassref11_MinCost.B9 = true := by kernel_rfl
def compassref11_MinCost.T11 : Bool × List (List Nat × List Nat) := (true, [([], []), ([0], [0]), ([], []), ([], []), ([3], [3]), ([], []), ([], []), ([5, 6], [5, 6]), ([7], [7]), ([8], [8]), ([2, 4, 9], [2, 4, 9]), ([10], [10]), ([1, 11], [1, 11]), ([0, 1, 2, 3, 4, 5, 6, 7, 8, 9, 10, 11, 12], []), ([13, 12, 12, 0, 1, 2, 3, 4, 5, 6, 7, 8, 9, 10, 11, 12], [12, 13])])
def compassref11_MinCost.B11 : List Nat := [0, 1, 0, 0, 8, 0, 0, 96, 224, 480, 1020, 2044, 4095, 8191, 16383]
theorem compassref11_MinCost.tab11 : rtab .any (opsOf Try.f34 11) = compassref11_MinCost.T11 := by kernel_rfl
theorem compassref11_MinCost.bits11 : waitsOk compassref11_MinCost.T11.2 compassref11_MinCost.B11 = true := by kernel_rfl
def compassref11_MinCost.T14 : Bool × List (List Nat × List Nat) := (true, [([], []), ([], []), ([1], [1]), ([0, 2], [0, 2]), ([], []), ([4, 4], []), ([3, 5, 0, 1, 2, 3, 4, 5], [3]), ([6, 0, 1, 2, 3, 4, 5, 6], [])])
def compassref11_MinCost.B14 : List Nat := [0, 0, 2, 7, 0, 16, 63, 127]
theorem compassref11_MinCost.tab14 : rtab .any (opsOf Try.f34 14) = compassref11_MinCost.T14 := by kernel_rfl
theorem compassref11_MinCost.bits14 : waitsOk compassref11_MinCost.T14.2 compassref11_MinCost.B14 = true := by kernel_rfl
set_option maxHeartbeats 8000000 in
set_option maxRecDepth 100000 in
theorem compassref11_MinCost.calls (k : Nat) (a0_0 : Int) (A0_1 : Option Addr) (c0_1 : Nat) (l0_1 : List (S98)) (A1 : Option Addr) (c1 : Nat) (l1 : List Int) (r1 : List Int) (r2 : List Int) (r3 : List Bool) (r4 : Bool) (w : World) (hr0_1 : Kd.C k98 w A0_1 l0_1.length l0_1) (hc0_1 : l0_1.length ≤ c0_1) (hr1 : Kd.C (Kd.int .i64) w A1 l1.length l1) (hc1 : l1.length ≤ c1) (h : compassref11_MinCost.f k a0_0 l0_1 l1 = some (r1, r2, r3, r4)) :
    Calls Try.prog 34 #[.agg #[.int .i64 a0_0, .slice A0_1 l0_1.length c0_1], .slice A1 l1.length c1] w fun e w' => ∃ v0_ v1_ v2_ : Value, e = .returned (.tuple #[v0_, v1_, v2_, .bool r4]) ∧ Kd.R (Kd.int .i64) 2 w' w.heap.size (fun k_ => (w.heap.size ≤ k_)) v0_ r1 ∧ Kd.V (Kd.int .i64) 2 w' w.heap.size (fun k_ => (w.heap.size ≤ k_) ∧ some k_ ≠ (v0_ : Value).ownBlock ∧ some k_ ≠ (v2_ : Value).ownBlock) v1_ r2 ∧ Kd.R Kd.bool 4 w' w.heap.size (fun k_ => (w.heap.size ≤ k_)) v2_ r3 ∧ Below w.heap.size w w' := by
 have hu24 := Try.underlying24; have hu98 := Try.underlying98; have HR0_1 := ak hr0_1; have HC0_1 := ak hc0_1; clear hr0_1 hc0_1; have HR1 := ak hr1; have HC1 := ak hc1; clear hr1 hc1; have HB := ak (Below.refl w.heap.size w); have H : ((compassref03_Copy.f k a0_0 l0_1).bind fun bt596 => (compassref11_MinCost.l0 k l1 a0_0 0 0 a0_0 l0_1 (wrap64 (bt596.1 + 2)) bt596.2)) = some (r1, r2, r3, r4) := h; clear h; replace H := Option.bind_eq_some_iff.mp H; obtain ⟨⟨t596, t597⟩, A30, H⟩ := H; dsimp only at H; have A3 := ak A30; clear A30; have H' := ak H; clear H
 go_enter Try.func34, Try.ntmps34
 go_wp2_with (first | ((with_reducible refine gate_dst (N := 2) rfl ?_); refine bxe 2 #[.int .i64 a0_0, .slice A0_1 l0_1.length c0_1] 24 ?_; intro gb595 hg w4 hbox hb; have n_ := a4 (bl hb) hbox (gw w hg) (gw w hg); clear HB; obtain ⟨HB, BK595, GW595, GE595⟩ := n_; clear hb hbox hg; have ⟨_, _, _, _⟩ := cf2 BK595) | ((with_reducible refine gate_callee (f := 70) rfl ?_); refine gl 22 Try.func70 #[.agg #[.int .i64 a0_0, .slice A0_1 l0_1.length c0_1]] ?_; (with_reducible refine (compassref03_Copy.calls k a0_0 _ _ l0_1 t596 t597 _ (Kd.C_below HR0_1.out lb) HC0_1.out A3.out).mono ?_); rintro e w6 ⟨v598, rfl, ho0, hb⟩; refine ⟨_, rfl, ?_⟩; have n_ := a3 (Kd.R_lower (Kd.R_newM (M := fun k_ => (w.heap.size ≤ k_)) ho0 (below_size lb) (fun k_ h_ => h_)) (below_size lb)) (bo BK595 hb) (bl hb); clear BK595 HB; obtain ⟨HO599, BK595, HB⟩ := n_; clear hb; (try clear ho0)) | ((with_reducible refine gate_dst (N := 8) rfl ?_); refine bxe 8 #[.int .i64 0, .slice none 0 0] 24 ?_; intro gb600 hg w7 hbox hb; have n_ := a8 (ro HO599 hb) (bo BK595 hb) (bl hb) hbox (gw w hg) (gw w hg) (nl hg BK595) (nr hg BK595); clear HO599 BK595 HB; obtain ⟨HO599, BK595, HB, BK600, GW600, GE600, NB595_600, NB600_595⟩ := n_; clear hb hbox hg; have ⟨_, _⟩ := nn NB600_595; have ⟨_, _, _, _⟩ := cf2 BK600; obtain ⟨Ao10, co10, eo10⟩ := Kd.R_slice HO599.out; subst eo10; have ⟨_, _, _, _⟩ := cf2 BK595))
 go_loopg [10, 11] k (fun kq v10 v11 w' => ∃ (x10_1 : Int) (x11_1 : Int) (x601001_1 : List (S98)) (u601001 : Value), v10 = .int .i64 x10_1 ∧ v11 = .int .i64 x11_1 ∧ Aside0 (compassref11_MinCost.l0 kq l1 a0_0 x10_1 x11_1 a0_0 l0_1 (wrap64 (t596 + 2)) x601001_1 = some (r1, r2, r3, r4)) ∧ Aside0 (kq ≤ k) ∧ Aside0 (Kd.R k98 98 w' w.heap.size (fun k_ => (w.heap.size ≤ k_)) u601001 x601001_1) ∧ Aside0 (w'.heap[gb595]? = some (.cells #[.int .i64 a0_0, (.slice A0_1 l0_1.length c0_1)] 24 (0, 0))) ∧ Aside0 (w'.heap[gb600]? = some (.cells #[.int .i64 (wrap64 (t596 + 2)), u601001] 24 (0, 0))) ∧ Aside0 (Below w.heap.size w w'))
 case atStart => exact ⟨(0), (0), (t597), (.slice Ao10 t597.length co10), sr, sr, H', ⟨Nat.le_refl _⟩, ⟨by exact rx (Kd.R_mono (Kd.R_far (p := ⟨gb600, 0, none⟩) (Kd.R_far (p := ⟨gb600, 1, none⟩) (Kd.R_far (p := ⟨gb600, 0, none⟩) (Kd.R_types HO599.out BK600.out (by decide)) (fun _ hk => hk.2) (.int .i64 t596)) (fun _ hk => hk.2) (.slice Ao10 t597.length co10)) (fun _ hk => hk.2) (.int .i64 (wrap64 (t596 + 2)))) (fun _ hk => hk.1.1))⟩, ⟨by (with_reducible repeat (first | refine blk_drewN ?_ _ | refine blk_drew ?_ | refine blk_alloc ?_ _)); refine blk_far ?_ NB595_600.out _; (with_reducible repeat (first | refine blk_drewN ?_ _ | refine blk_drew ?_ | refine blk_alloc ?_ _)); refine blk_far ?_ NB595_600.out _; (with_reducible repeat (first | refine blk_drewN ?_ _ | refine blk_drew ?_ | refine blk_alloc ?_ _)); refine blk_far ?_ NB595_600.out _; exact bx BK595.out⟩, ⟨by (with_reducible repeat (first | refine blk_drewN ?_ _ | refine blk_drew ?_ | refine blk_alloc ?_ _)); refine blk_put (cs := #[.int .i64 t596, .slice Ao10 t597.length co10]) ?_ 0 _ rfl; (with_reducible repeat (first | refine blk_drewN ?_ _ | refine blk_drew ?_ | refine blk_alloc ?_ _)); refine blk_put (cs := #[.int .i64 t596, .slice none 0 0]) ?_ 1 _ rfl; (with_reducible repeat (first | refine blk_drewN ?_ _ | refine blk_drew ?_ | refine blk_alloc ?_ _)); refine blk_put (cs := #[.int .i64 0, .slice none 0 0]) ?_ 0 _ rfl; exact bx BK600.out⟩, ⟨lb⟩⟩
 clear H'; obtain ⟨x10_1, x11_1, x601001_1, u601001, rfl, rfl, HA, HK1, HO_601001, BK595, BK600, HB⟩ := hrel
 cases gk with
 | zero => exact absurd HA.out (by simp [compassref11_MinCost.l0])
 | succ k1 => ?_
 have H := HA.out; clear HA
 simp only [compassref11_MinCost.l0] at H
 by_cases c12 : x11_1 < a0_0
 rotate_left
 ·
  rw [if_neg c12] at H; have c12b0 := decide_eq_false c12; clear c12; replace H := Option.bind_eq_some_iff.mp H; obtain ⟨⟨t611, t614⟩, A300, H⟩ := H; dsimp only at H; have A30 := ak A300; clear A300; replace H := Option.bind_eq_some_iff.mp H; obtain ⟨t617, A310, H⟩ := H; have A31 := ak A310; clear A310
  by_cases c32 : t617 < x10_1
  ·
   rw [if_pos c32] at H; have c32b0 := decide_eq_true c32; clear c32; replace H := ife H; obtain ⟨c33b0, c33b1, H⟩ := H; replace H := ife H; obtain ⟨c34b0, c34b1, H⟩ := H; obtain ⟨y618, hy618⟩ : ∃ y_ : List Bool, y_ = (t614.take (a0_0 : Int).toNat) := ⟨_, rfl⟩; replace H : (some (([] : List Int), ([] : List Int), y618, false)) = some (r1, r2, r3, r4) := by first | (rw [hy618]; exact H) | exact H
   have Ny618 := ak hy618; clear hy618
   simp only [Option.some.injEq, Prod.mk.injEq] at H
   obtain ⟨rfl, rfl, rfl, rfl⟩ := H; have ⟨_, _⟩ := nn NB595_600; have ⟨_, _, _, _⟩ := cf2 BK595; have ⟨_, _, _, _⟩ := cf2 BK600; obtain ⟨Ao38, co38, eo38⟩ := Kd.R_slice HO_601001.out; subst eo38
   try go_wp2_with (first | ((with_reducible refine gate_callee (f := 21) rfl ?_); refine gl 77 Try.func21 #[.agg #[.int .i64 (wrap64 (t596 + 2)), .slice Ao38 x601001_1.length co38], .int .i64 a0_0, .int .i64 (wrap64 (a0_0 + 1))] ?_; (with_reducible refine (compassref11_MaxFlow.calls k1 (wrap64 (t596 + 2)) _ _ x601001_1 a0_0 (wrap64 (a0_0 + 1)) t611 t614 _ ?side1 ?side2 A30.out).mono ?_); (case side1 => exact cR HO_601001); (case side2 => exact (Kd.R_reads' HO_601001.out).2.1); rintro e w39 ⟨v612, v615, rfl, ho0, ho1, hb⟩; refine ⟨_, rfl, ?_⟩; have n_ := a6 (ro HO_601001 hb) (Kd.R_lower (Kd.R_newM (M := fun k_ => (w.heap.size ≤ k_)) ho0 (below_size lb) (fun k_ h_ => h_)) (below_size lb)) (Kd.R_lower (Kd.R_newM (M := fun k_ => (w.heap.size ≤ k_)) ho1 (below_size lb) (fun k_ h_ => h_)) (below_size lb)) (bo BK595 hb) (bo BK600 hb) (bl hb); clear HO_601001 BK595 BK600 HB; obtain ⟨HO_601001, HO613, HO616, BK595, BK600, HB⟩ := n_; clear hb; (try clear ho0); (try clear ho1); have ⟨_, _, _, _⟩ := cf2 BK600; obtain ⟨Ao41, co41, eo41⟩ := Kd.R_slice HO613.out; subst eo41) | ((with_reducible refine gate_callee (f := 18) rfl ?_); refine gl 83 Try.func18 #[.agg #[.int .i64 (wrap64 (t596 + 2)), .slice Ao38 x601001_1.length co38], .slice Ao41 t611.length co41, .int .i64 a0_0] ?_; (with_reducible refine (compassref11_Out.calls k1 (wrap64 (t596 + 2)) _ _ x601001_1 _ _ t611 a0_0 t617 _ ?side1 ?side2 ?side3 ?side4 A31.out).mono ?_); (case side1 => exact cR HO_601001); (case side2 => exact (Kd.R_reads' HO_601001.out).2.1); (case side3 => exact cR HO613); (case side4 => exact (Kd.R_reads' HO613.out).2.1); rintro e w42 ⟨rfl, hb⟩; refine ⟨_, rfl, ?_⟩; have n_ := a6 (ro HO_601001 hb) (ro HO613 hb) (ro HO616 hb) (bo BK595 hb) (bo BK600 hb) (bl hb); clear HO_601001 HO613 HO616 BK595 BK600 HB; obtain ⟨HO_601001, HO613, HO616, BK595, BK600, HB⟩ := n_; clear hb))
   have n_ := a6 (Kd.R_drew HO_601001.out) (Kd.R_drew HO613.out) (Kd.R_drew HO616.out) (blk_drew BK595.out) (blk_drew BK600.out) (below_drew1 HB.out); clear HO_601001 HO613 HO616 BK595 BK600 HB; obtain ⟨HO_601001, HO613, HO616, BK595, BK600, HB⟩ := n_; obtain ⟨Ao44, co44, eo44⟩ := Kd.R_slice HO616.out
   (first | subst eo44 | (injection eo44 with f1_ f2_ f3_; have f4_ := f1_.symm; have f5_ := f3_.symm; clear f1_ f2_ f3_; subst f4_; subst f5_))
   have q45 : (a0_0 : Int) ≤ ((t614.length : Int) : Int) := oda; obtain ⟨i045, hi045, _, hsz45, _⟩ := info_parts info4; have hcut45 := cut_to (P := Try.prog) 26 4 .i64 Try.underlying26 hi045 Ao44 t614.length co44 a0_0 (oda) q45 (Kd.R_reads' HO616.out).2.1
   have hr45 := Kd.R_take (m := (a0_0 : Int).toNat) HO616.out (by omega)
   have hy45 : y618.length = (a0_0 : Int).toNat := (by rw [Ny618.out, List.length_take]; omega)
   rw [← Ny618.out] at hr45
   rw [← hy45] at hr45 hcut45
   clear hy45 hi045 hsz45 HO616; have HO620 := ak hr45; clear hr45; replace q45 := eq_true q45
   refine stC 8 [] (cX (bc0 BK595) (cY (bc1 BK595))) compassref11_MinCost.tab14 compassref11_MinCost.bits14 fun hHeld HT_ HW_ => ?_
   generalize w42.drew = w43 at HO_601001 HO613 BK595 BK600 HB HO620 hHeld ⊢
   refine pv HT_ 0 86 ?_; refine pv HT_ 1 87 ?_; refine pv HT_ 4 4 ?_; refine pv HT_ 5 5 ?_; refine tv HT_ HW_ hHeld 2 88 ?_; refine pv HT_ 3 89 ?_; refine pv HT_ 6 6 ?_; refine pv HT_ 7 7 ?_
   refine done_ (done_of HT_.out (by kernel_rfl)) ?_
   try go_wp2
   refine bodyPost_ret (results_list (rs := [.tmp 4, .tmp 5, .tmp 6, .tmp 7]) rfl (by simp) (.tmp (.tmp (.tmp (.tmp .nil))))) rfl ?_
   exact ⟨_, _, _, by first | rfl | (simp [errW_none, errW_some] <;> rfl) | (simp [*, errW_none, errW_some] <;> rfl), by first | exact Kd.R_nil _ _ _ _ _ | exact Kd.N_nil _ _ _ _ _ | exact Kd.V_nil _ _ _ _ _ | exact Kd.Q_nil _ _ _ _ _ | exact Kd.S_nil _ _ _ _ _, Kd.V_nil _ _ _ _ _, by exact rx (Kd.R_mono HO620.out (fun _ hk => hk.1)), lb⟩
  rw [if_neg c32] at H; have c32b0 := decide_eq_false c32; clear c32; replace H := ife H; obtain ⟨c46b0, c46b1, H⟩ := H; replace H := ife H; obtain ⟨c47b0, c47b1, H⟩ := H; obtain ⟨y621, hy621⟩ : ∃ y_ : List Int, y_ = (t611.take ((l0_1.length : Int) : Int).toNat) := ⟨_, rfl⟩; replace H : (compassref11_MinCost.l1 k1 y621 a0_0 l0_1) = some (r1, r2, r3, r4) := by first | (rw [hy621]; exact H) | exact H
  have Ny621 := ak hy621; clear hy621; have H' := ak H; clear H; have ⟨_, _⟩ := nn NB595_600; have ⟨_, _, _, _⟩ := cf2 BK595; have ⟨_, _, _, _⟩ := cf2 BK600; obtain ⟨Ao51, co51, eo51⟩ := Kd.R_slice HO_601001.out; subst eo51
  go_wp2_with (first | ((with_reducible refine gate_callee (f := 21) rfl ?_); refine gl 77 Try.func21 #[.agg #[.int .i64 (wrap64 (t596 + 2)), .slice Ao51 x601001_1.length co51], .int .i64 a0_0, .int .i64 (wrap64 (a0_0 + 1))] ?_; (with_reducible refine (compassref11_MaxFlow.calls k1 (wrap64 (t596 + 2)) _ _ x601001_1 a0_0 (wrap64 (a0_0 + 1)) t611 t614 _ ?side1 ?side2 A30.out).mono ?_); (case side1 => exact cR HO_601001); (case side2 => exact (Kd.R_reads' HO_601001.out).2.1); rintro e w52 ⟨v612, v615, rfl, ho0, ho1, hb⟩; refine ⟨_, rfl, ?_⟩; have n_ := a6 (ro HO_601001 hb) (Kd.R_lower (Kd.R_newM (M := fun k_ => (w.heap.size ≤ k_)) ho0 (below_size lb) (fun k_ h_ => h_)) (below_size lb)) (Kd.R_lower (Kd.R_newM (M := fun k_ => (w.heap.size ≤ k_)) ho1 (below_size lb) (fun k_ h_ => h_)) (below_size lb)) (bo BK595 hb) (bo BK600 hb) (bl hb); clear HO_601001 BK595 BK600 HB; obtain ⟨HO_601001, HO613, HO616, BK595, BK600, HB⟩ := n_; clear hb; (try clear ho0); (try clear ho1); have ⟨_, _, _, _⟩ := cf2 BK600; obtain ⟨Ao54, co54, eo54⟩ := Kd.R_slice HO613.out; subst eo54) | ((with_reducible refine gate_callee (f := 18) rfl ?_); refine gl 83 Try.func18 #[.agg #[.int .i64 (wrap64 (t596 + 2)), .slice Ao51 x601001_1.length co51], .slice Ao54 t611.length co54, .int .i64 a0_0] ?_; (with_reducible refine (compassref11_Out.calls k1 (wrap64 (t596 + 2)) _ _ x601001_1 _ _ t611 a0_0 t617 _ ?side1 ?side2 ?side3 ?side4 A31.out).mono ?_); (case side1 => exact cR HO_601001); (case side2 => exact (Kd.R_reads' HO_601001.out).2.1); (case side3 => exact cR HO613); (case side4 => exact (Kd.R_reads' HO613.out).2.1); rintro e w55 ⟨rfl, hb⟩; refine ⟨_, rfl, ?_⟩; have n_ := a6 (ro HO_601001 hb) (ro HO613 hb) (ro HO616 hb) (bo BK595 hb) (bo BK600 hb) (bl hb); clear HO_601001 HO613 HO616 BK595 BK600 HB; obtain ⟨HO_601001, HO613, HO616, BK595, BK600, HB⟩ := n_; clear hb; have ⟨_, _, _, _⟩ := cf2 BK595; have q57 : ((l0_1.length : Int) : Int) ≤ ((t611.length : Int) : Int) := oda; obtain ⟨i057, hi057, _, hsz57, _⟩ := info_parts info2; have hcut57 := cut_to (P := Try.prog) 25 2 .i64 Try.underlying25 hi057 Ao54 t611.length co54 (l0_1.length : Int) (oda) q57 (Kd.R_reads' HO613.out).2.1; have hr57 := Kd.R_take (m := ((l0_1.length : Int) : Int).toNat) HO613.out (by omega); have hy57 : y621.length = ((l0_1.length : Int) : Int).toNat := (by rw [Ny621.out, List.length_take]; omega); rw [← Ny621.out] at hr57; rw [← hy57] at hr57 hcut57; clear hy57 hi057 hsz57 HO613; have HO623 := ak hr57; clear hr57; replace q57 := eq_true q57))
  go_loopg [12] k1 (fun kq v12 w' => ∃ (x12_2 : List Int), Aside0 (compassref11_MinCost.l1 kq x12_2 a0_0 l0_1 = some (r1, r2, r3, r4)) ∧ Aside0 (kq ≤ k1) ∧ Aside0 (Kd.R (Kd.int .i64) 2 w' w.heap.size (fun k_ => (w.heap.size ≤ k_)) v12 x12_2) ∧ Aside0 (Kd.R k98 98 w' w.heap.size (fun k_ => (w.heap.size ≤ k_)) (.slice Ao51 x601001_1.length co51) x601001_1) ∧ Aside0 (w'.heap[gb595]? = some (.cells #[.int .i64 a0_0, (.slice A0_1 l0_1.length c0_1)] 24 (0, 0))) ∧ Aside0 (w'.heap[gb600]? = some (.cells #[.int .i64 (wrap64 (t596 + 2)), (.slice Ao51 x601001_1.length co51)] 24 (0, 0))) ∧ Aside0 (Below w.heap.size w w'))
  case atStart => exact ⟨(y621), H', ⟨Nat.le_refl _⟩, ⟨by exact rx (Kd.R_mono HO623.out (fun _ hk => hk.1))⟩, ⟨rx HO_601001.out⟩, xb BK595, xb BK600, ⟨lb⟩⟩
  clear H'; obtain ⟨x12_2, HA, HK2, HO_12, HO_601001, BK595, BK600, HB⟩ := hrel
  cases gk with
  | zero => exact absurd HA.out (by simp [compassref11_MinCost.l1])
  | succ k2 => ?_
  have H := HA.out; clear HA
  simp only [compassref11_MinCost.l1] at H
  replace H := Option.bind_eq_some_iff.mp H; obtain ⟨⟨t624, t625⟩, A580, H⟩ := H; dsimp only at H; have A58 := ak A580; clear A580; replace H := Option.bind_eq_some_iff.mp H; obtain ⟨⟨t628, t629, t632⟩, A590, H⟩ := H; dsimp only at H; have A59 := ak A590; clear A590; replace H := Option.bind_eq_some_iff.mp H; obtain ⟨t636, A600, H⟩ := H; have A60 := ak A600; clear A600
  by_cases c61 : (t636.length : Int) = 0
  ·
   rw [if_pos c61] at H; have c61b := be2 c61; clear c61; replace H := Option.bind_eq_some_iff.mp H; obtain ⟨⟨t639, t642⟩, A620, H⟩ := H; dsimp only at H; have A62 := ak A620; clear A620
   simp only [Option.some.injEq, Prod.mk.injEq] at H
   obtain ⟨rfl, rfl, rfl, rfl⟩ := H; have ⟨_, _⟩ := nn NB595_600; have ⟨_, _, _, _⟩ := cf2 BK595; obtain ⟨Ao65, co65, eo65⟩ := Kd.R_slice HO_12.out; subst eo65
   go_wp2_with (first | ((with_reducible refine gate_callee (f := 56) rfl ?_); refine gl 98 Try.func56 #[.agg #[.int .i64 a0_0, .slice A0_1 l0_1.length c0_1], .slice Ao65 x12_2.length co65] ?_; (with_reducible refine (compassref11_Residual.calls k2 a0_0 _ _ l0_1 _ _ x12_2 t624 t625 _ ?side1 ?side2 ?side3 ?side4 A58.out).mono ?_); (case side1 => exact Kd.C_below HR0_1.out lb); (case side2 => exact HC0_1.out); (case side3 => exact cR HO_12); (case side4 => exact (Kd.R_reads' HO_12.out).2.1); rintro e w66 ⟨v626, rfl, ho0, hb⟩; refine ⟨_, rfl, ?_⟩; have n_ := a6 (ro HO_12 hb) (Kd.R_elder' (rx HO_601001.out) (Kd.R_base ho0) hb) (Kd.R_lower (Kd.R_new' (Kd.R_newM (M := fun k_ => (w.heap.size ≤ k_)) ho0 (below_size lb) (fun k_ h_ => h_)) (Kd.R_lt (rx HO_601001.out))) (below_size lb)) (bo BK595 hb) (bo BK600 hb) (bl hb); clear HO_12 HO_601001 BK595 BK600 HB; obtain ⟨HO_12, HO_601001, HO627, BK595, BK600, HB⟩ := n_; clear hb; (try clear ho0); obtain ⟨Ao67, co67, eo67⟩ := Kd.R_slice HO627.out; subst eo67) | ((with_reducible refine gate_callee (f := 71) rfl ?_); refine gl 99 Try.func71 #[.agg #[.int .i64 t624, .slice Ao67 t625.length co67]] ?_; (with_reducible refine (compassref11_useful.calls k2 t624 _ _ t625 t628 t629 t632 _ ?side1 ?side2 A59.out).mono ?_); (case side1 => exact cR HO627); (case side2 => exact (Kd.R_reads' HO627.out).2.1); rintro e w68 ⟨v630, v633, rfl, ho0, ho1, hb⟩; refine ⟨_, rfl, ?_⟩; have n_ := a8 (ro HO_12 hb) (Kd.R_elder' (rx HO_601001.out) (Kd.R_base ho0) hb) (Kd.R_elder' (rx HO627.out) (Kd.R_base ho0) hb) (Kd.R_lower (Kd.R_new' (Kd.R_new' (Kd.R_newM (M := fun k_ => (w.heap.size ≤ k_)) ho0 (below_size lb) (fun k_ h_ => h_)) (Kd.R_lt (rx HO_601001.out))) (Kd.R_lt (rx HO627.out))) (below_size lb)) (Kd.R_lower (Kd.R_newM (M := fun k_ => (w.heap.size ≤ k_)) ho1 (below_size lb) (fun k_ h_ => h_)) (below_size lb)) (bo BK595 hb) (bo BK600 hb) (bl hb); clear HO_12 HO_601001 HO627 BK595 BK600 HB; obtain ⟨HO_12, HO_601001, HO627, HO631, HO634, BK595, BK600, HB⟩ := n_; clear hb; (try clear ho0); (try clear ho1)) | ((with_reducible refine gate_dst (N := 14) rfl ?_); refine bxe 14 #[.int .i64 0, .slice none 0 0] 24 ?_; intro gb635 hg w69 hbox hb; have n_ := a15 (ro HO_12 hb) (ro HO_601001 hb) (ro HO627 hb) (ro HO631 hb) (ro HO634 hb) (bo BK595 hb) (bo BK600 hb) (bl hb) hbox (gw w hg) (gw w hg) (nl hg BK595) (nr hg BK595) (nl hg BK600) (nr hg BK600); clear HO_12 HO_601001 HO627 HO631 HO634 BK595 BK600 HB; obtain ⟨HO_12, HO_601001, HO627, HO631, HO634, BK595, BK600, HB, BK635, GW635, GE635, NB595_635, NB635_595, NB600_635, NB635_600⟩ := n_; clear hb hbox hg; have ⟨_, _⟩ := nn NB635_595; have ⟨_, _⟩ := nn NB635_600; have ⟨_, _, _, _⟩ := cf2 BK635; obtain ⟨Ao73, co73, eo73⟩ := Kd.R_slice HO631.out; subst eo73) | ((with_reducible refine gate_callee (f := 72) rfl ?_); refine gl 103 Try.func72 #[.agg #[.int .i64 t628, .slice Ao73 t629.length co73]] ?_; (with_reducible refine (compassref11_Below.calls k2 t628 _ _ t629 t636 _ ?side1 ?side2 A60.out).mono ?_); (case side1 => refine (Kd.R_reads' (e := 98) (base := w.heap.size) (ok := fun k_ => ((((w.heap.size ≤ k_) ∧ True) ∧ some k_ ≠ (.slice Ao51 x601001_1.length co51 : Value).ownBlock) ∧ some k_ ≠ (.slice Ao67 t625.length co67 : Value).ownBlock)) (n := t629.length) (c := co73) ?_).2.2; exact (fw HO631 BK635)); (case side2 => exact (Kd.R_reads' HO631.out).2.1); rintro e w74 ⟨v637, rfl, ho0, hb⟩; refine ⟨_, rfl, ?_⟩; have n_ := a10 (fr HO_12 BK635 hb) (fr HO_601001 BK635 hb) (fr HO627 BK635 hb) (fr HO631 BK635 hb) (Kd.R_elder' (fw HO634 BK635) (Kd.R_base ho0) hb) (Kd.R_lower (Kd.R_new' (Kd.R_newM (M := fun k_ => (w.heap.size ≤ k_)) ho0 (below_size lb) (fun k_ h_ => h_)) (Kd.R_lt (fw HO634 BK635))) (below_size lb)) (fb BK595 NB595_635 hb) (fb BK600 NB600_635 hb) (fp BK635 hb) (bl hb); clear HO_12 HO_601001 HO627 HO631 HO634 BK595 BK600 BK635 HB; obtain ⟨HO_12, HO_601001, HO627, HO631, HO634, HO638, BK595, BK600, BK635, HB⟩ := n_; (try clear hb); (try clear hb2); (try clear hk); (try clear hi); (try clear ho0); obtain ⟨Ao75, co75, eo75⟩ := Kd.R_slice HO638.out; subst eo75; have ⟨_, _, _, _⟩ := cf2 BK635) | ((with_reducible refine gate_callee (f := 73) rfl ?_); refine gl 109 Try.func73 #[.agg #[.int .i64 t628, .slice Ao73 t629.length co73]] ?_; (with_reducible refine (compassref08_Potentials.calls k2 t628 _ _ t629 t639 t642 _ ?side1 ?side2 A62.out).mono ?_); (case side1 => exact cR HO631); (case side2 => exact (Kd.R_reads' HO631.out).2.1); rintro e w77 ⟨v640, rfl, ho0, hb⟩; refine ⟨_, rfl, ?_⟩; have n_ := a11 (ro HO_12 hb) (ro HO_601001 hb) (ro HO627 hb) (ro HO631 hb) (ro HO634 hb) (ro HO638 hb) (Kd.V_lower (Kd.V_mono (ok' := fun k_ => (w.heap.size ≤ k_) ∧ some k_ ≠ (.slice Ao65 x12_2.length co65 : Value).ownBlock ∧ some k_ ≠ (.slice Ao51 x601001_1.length co51 : Value).ownBlock ∧ some k_ ≠ (.slice Ao67 t625.length co67 : Value).ownBlock ∧ some k_ ≠ (.slice Ao73 t629.length co73 : Value).ownBlock ∧ some k_ ≠ (v633 : Value).ownBlock ∧ some k_ ≠ (.slice Ao75 t636.length co75 : Value).ownBlock ∧ k_ ≠ gb595 ∧ k_ ≠ gb600 ∧ k_ ≠ gb635) ho0 (fun k_ hk_ => ⟨(Nat.le_trans (below_size lb) hk_), (Kd.fresh' (Kd.R_lt (rx HO_12.out)) k_ hk_), (Kd.fresh' (Kd.R_lt (rx HO_601001.out)) k_ hk_), (Kd.fresh' (Kd.R_lt (rx HO627.out)) k_ hk_), (Kd.fresh' (Kd.R_lt (rx HO631.out)) k_ hk_), (Kd.fresh' (Kd.R_lt (rx HO634.out)) k_ hk_), (Kd.fresh' (Kd.R_lt (rx HO638.out)) k_ hk_), (Kd.freshB (g := gb595) (o := .cells #[.int .i64 a0_0, .slice A0_1 l0_1.length c0_1] 24 (0, 0)) (bx BK595.out) k_ hk_), (Kd.freshB (g := gb600) (o := .cells #[.int .i64 (wrap64 (t596 + 2)), .slice Ao51 x601001_1.length co51] 24 (0, 0)) (bx BK600.out) k_ hk_), (Kd.freshB (g := gb635) (o := .cells #[.int .i64 t628, .slice Ao73 t629.length co73] 24 (0, 0)) (bx BK635.out) k_ hk_)⟩)) (below_size lb)) (bo BK595 hb) (bo BK600 hb) (bo BK635 hb) (bl hb); clear HO_12 HO_601001 HO627 HO631 HO634 HO638 BK595 BK600 BK635 HB; obtain ⟨HO_12, HO_601001, HO627, HO631, HO634, HO638, HO641, BK595, BK600, BK635, HB⟩ := n_; clear hb; (try clear ho0)))
   refine bodyPost_ret (results_list (rs := [.tmp 4, .tmp 5, .tmp 6, .tmp 7]) rfl (by simp) (.tmp (.tmp (.tmp (.tmp .nil))))) rfl ?_
   exact ⟨_, _, _, by first | rfl | (simp [errW_none, errW_some] <;> rfl) | (simp [*, errW_none, errW_some] <;> rfl), by exact rx HO_12.out, by exact vx (Kd.V_mono HO641.out (fun _ hk => ⟨hk.1, ⟨hk.2.1, (by simp [Value.ownBlock])⟩⟩)), by first | exact Kd.R_nil _ _ _ _ _ | exact Kd.N_nil _ _ _ _ _ | exact Kd.V_nil _ _ _ _ _ | exact Kd.Q_nil _ _ _ _ _ | exact Kd.S_nil _ _ _ _ _, lb⟩
  rw [if_neg c61] at H; have c61b := bn2 c61
  have c61b2 : ¬ (t636 = []) := fun h_ => c61 (by rw [h_]; rfl)
  have H' := ak H; clear H; have ⟨_, _⟩ := nn NB595_600; have ⟨_, _, _, _⟩ := cf2 BK595; obtain ⟨Ao80, co80, eo80⟩ := Kd.R_slice HO_12.out; subst eo80
  go_wp2_with (first | ((with_reducible refine gate_callee (f := 56) rfl ?_); refine gl 98 Try.func56 #[.agg #[.int .i64 a0_0, .slice A0_1 l0_1.length c0_1], .slice Ao80 x12_2.length co80] ?_; (with_reducible refine (compassref11_Residual.calls k2 a0_0 _ _ l0_1 _ _ x12_2 t624 t625 _ ?side1 ?side2 ?side3 ?side4 A58.out).mono ?_); (case side1 => exact Kd.C_below HR0_1.out lb); (case side2 => exact HC0_1.out); (case side3 => exact cR HO_12); (case side4 => exact (Kd.R_reads' HO_12.out).2.1); rintro e w81 ⟨v626, rfl, ho0, hb⟩; refine ⟨_, rfl, ?_⟩; have n_ := a6 (ro HO_12 hb) (Kd.R_elder' (rx HO_601001.out) (Kd.R_base ho0) hb) (Kd.R_lower (Kd.R_new' (Kd.R_newM (M := fun k_ => (w.heap.size ≤ k_)) ho0 (below_size lb) (fun k_ h_ => h_)) (Kd.R_lt (rx HO_601001.out))) (below_size lb)) (bo BK595 hb) (bo BK600 hb) (bl hb); clear HO_12 HO_601001 BK595 BK600 HB; obtain ⟨HO_12, HO_601001, HO627, BK595, BK600, HB⟩ := n_; clear hb; (try clear ho0); obtain ⟨Ao82, co82, eo82⟩ := Kd.R_slice HO627.out; subst eo82) | ((with_reducible refine gate_callee (f := 71) rfl ?_); refine gl 99 Try.func71 #[.agg #[.int .i64 t624, .slice Ao82 t625.length co82]] ?_; (with_reducible refine (compassref11_useful.calls k2 t624 _ _ t625 t628 t629 t632 _ ?side1 ?side2 A59.out).mono ?_); (case side1 => exact cR HO627); (case side2 => exact (Kd.R_reads' HO627.out).2.1); rintro e w83 ⟨v630, v633, rfl, ho0, ho1, hb⟩; refine ⟨_, rfl, ?_⟩; have n_ := a8 (ro HO_12 hb) (Kd.R_elder' (rx HO_601001.out) (Kd.R_base ho0) hb) (Kd.R_elder' (rx HO627.out) (Kd.R_base ho0) hb) (Kd.R_lower (Kd.R_new' (Kd.R_new' (Kd.R_newM (M := fun k_ => (w.heap.size ≤ k_)) ho0 (below_size lb) (fun k_ h_ => h_)) (Kd.R_lt (rx HO_601001.out))) (Kd.R_lt (rx HO627.out))) (below_size lb)) (Kd.R_lower (Kd.R_newM (M := fun k_ => (w.heap.size ≤ k_)) ho1 (below_size lb) (fun k_ h_ => h_)) (below_size lb)) (bo BK595 hb) (bo BK600 hb) (bl hb); clear HO_12 HO_601001 HO627 BK595 BK600 HB; obtain ⟨HO_12, HO_601001, HO627, HO631, HO634, BK595, BK600, HB⟩ := n_; clear hb; (try clear ho0); (try clear ho1)) | ((with_reducible refine gate_dst (N := 14) rfl ?_); refine bxe 14 #[.int .i64 0, .slice none 0 0] 24 ?_; intro gb635 hg w84 hbox hb; have n_ := a15 (ro HO_12 hb) (ro HO_601001 hb) (ro HO627 hb) (ro HO631 hb) (ro HO634 hb) (bo BK595 hb) (bo BK600 hb) (bl hb) hbox (gw w hg) (gw w hg) (nl hg BK595) (nr hg BK595) (nl hg BK600) (nr hg BK600); clear HO_12 HO_601001 HO627 HO631 HO634 BK595 BK600 HB; obtain ⟨HO_12, HO_601001, HO627, HO631, HO634, BK595, BK600, HB, BK635, GW635, GE635, NB595_635, NB635_595, NB600_635, NB635_600⟩ := n_; clear hb hbox hg; have ⟨_, _⟩ := nn NB635_595; have ⟨_, _⟩ := nn NB635_600; have ⟨_, _, _, _⟩ := cf2 BK635; obtain ⟨Ao88, co88, eo88⟩ := Kd.R_slice HO631.out; subst eo88) | ((with_reducible refine gate_callee (f := 72) rfl ?_); refine gl 103 Try.func72 #[.agg #[.int .i64 t628, .slice Ao88 t629.length co88]] ?_; (with_reducible refine (compassref11_Below.calls k2 t628 _ _ t629 t636 _ ?side1 ?side2 A60.out).mono ?_); (case side1 => refine (Kd.R_reads' (e := 98) (base := w.heap.size) (ok := fun k_ => ((((w.heap.size ≤ k_) ∧ True) ∧ some k_ ≠ (.slice Ao51 x601001_1.length co51 : Value).ownBlock) ∧ some k_ ≠ (.slice Ao82 t625.length co82 : Value).ownBlock)) (n := t629.length) (c := co88) ?_).2.2; exact (fw HO631 BK635)); (case side2 => exact (Kd.R_reads' HO631.out).2.1); rintro e w89 ⟨v637, rfl, ho0, hb⟩; refine ⟨_, rfl, ?_⟩; have n_ := a10 (fr HO_12 BK635 hb) (fr HO_601001 BK635 hb) (fr HO627 BK635 hb) (fr HO631 BK635 hb) (Kd.R_elder' (fw HO634 BK635) (Kd.R_base ho0) hb) (Kd.R_lower (Kd.R_new' (Kd.R_newM (M := fun k_ => (w.heap.size ≤ k_)) ho0 (below_size lb) (fun k_ h_ => h_)) (Kd.R_lt (fw HO634 BK635))) (below_size lb)) (fb BK595 NB595_635 hb) (fb BK600 NB600_635 hb) (fp BK635 hb) (bl hb); clear HO_12 HO_601001 HO627 HO631 HO634 BK595 BK600 BK635 HB; obtain ⟨HO_12, HO_601001, HO627, HO631, HO634, HO638, BK595, BK600, BK635, HB⟩ := n_; (try clear hb); (try clear hb2); (try clear hk); (try clear hi); (try clear ho0); obtain ⟨Ao90, co90, eo90⟩ := Kd.R_slice HO638.out; subst eo90))
  go_loopg [19, 20] k2 (fun kq v19 v20 w' => ∃ (x19_3 : List Int) (x20_3 : Int), v20 = .int .i64 x20_3 ∧ Aside0 (compassref11_MinCost.l2 kq x12_2 t632 t636 x19_3 x20_3 a0_0 l0_1 = some (r1, r2, r3, r4)) ∧ Aside0 (kq ≤ k2) ∧ Aside0 (Kd.R (Kd.int .i64) 2 w' w.heap.size (fun k_ => (w.heap.size ≤ k_)) (.slice Ao80 x12_2.length co80) x12_2) ∧ Aside0 (Kd.R (Kd.int .i64) 3 w' w.heap.size (fun k_ => (w.heap.size ≤ k_) ∧ some k_ ≠ ((.slice Ao90 t636.length co90) : Value).ownBlock ∧ some k_ ≠ (v19 : Value).ownBlock) v633 t632) ∧ Aside0 (Kd.R (Kd.int .i64) 3 w' w.heap.size (fun k_ => (w.heap.size ≤ k_) ∧ some k_ ≠ (v633 : Value).ownBlock ∧ some k_ ≠ (v19 : Value).ownBlock) (.slice Ao90 t636.length co90) t636) ∧ Aside0 (Kd.R (Kd.int .i64) 3 w' w.heap.size (fun k_ => (w.heap.size ≤ k_) ∧ some k_ ≠ (v633 : Value).ownBlock ∧ some k_ ≠ ((.slice Ao90 t636.length co90) : Value).ownBlock) v19 x19_3) ∧ Aside0 (Kd.R k98 98 w' w.heap.size (fun k_ => (w.heap.size ≤ k_) ∧ some k_ ≠ ((.slice Ao88 t629.length co88) : Value).ownBlock) (.slice Ao51 x601001_1.length co51) x601001_1) ∧ Aside0 (Kd.R k98 98 w' w.heap.size (fun k_ => (w.heap.size ≤ k_) ∧ some k_ ≠ ((.slice Ao51 x601001_1.length co51) : Value).ownBlock) (.slice Ao88 t629.length co88) t629) ∧ Aside0 (w'.heap[gb595]? = some (.cells #[.int .i64 a0_0, (.slice A0_1 l0_1.length c0_1)] 24 (0, 0))) ∧ Aside0 (w'.heap[gb600]? = some (.cells #[.int .i64 (wrap64 (t596 + 2)), (.slice Ao51 x601001_1.length co51)] 24 (0, 0))) ∧ Aside0 (w'.heap[gb635]? = some (.cells #[.int .i64 t628, (.slice Ao88 t629.length co88)] 24 (0, 0))) ∧ Aside0 (Below w.heap.size w w'))
  case atStart => exact ⟨(([] : List Int)), (0), sr, H', ⟨Nat.le_refl _⟩, ⟨rx HO_12.out⟩, ⟨by exact rx (Kd.R_mono HO634.out (fun _ hk => ⟨hk.1.1, ⟨hk.2, (by simp [Value.ownBlock])⟩⟩))⟩, ⟨by exact rx (Kd.R_mono HO638.out (fun _ hk => ⟨hk.1.1, ⟨hk.2, (by simp [Value.ownBlock])⟩⟩))⟩, ⟨by first | exact Kd.R_nil _ _ _ _ _ | exact Kd.N_nil _ _ _ _ _ | exact Kd.V_nil _ _ _ _ _ | exact Kd.Q_nil _ _ _ _ _ | exact Kd.S_nil _ _ _ _ _⟩, ⟨by exact rx (Kd.R_mono HO_601001.out (fun _ hk => ⟨hk.1.1, hk.2⟩))⟩, ⟨by exact rx (Kd.R_mono HO631.out (fun _ hk => ⟨hk.1.1.1, hk.1.2⟩))⟩, xb BK595, xb BK600, xb BK635, ⟨lb⟩⟩
  clear H'; obtain ⟨x19_3, x20_3, rfl, HA, HK3, HO_12, HO_15, HO_16, HO_19, HO_601001, HO_636001, BK595, BK600, BK635, HB⟩ := hrel
  cases gk with
  | zero => exact absurd HA.out (by simp [compassref11_MinCost.l2])
  | succ k3 => ?_
  have H := HA.out; clear HA
  simp only [compassref11_MinCost.l2] at H
  by_cases c91 : x20_3 < (t636.length : Int)
  rotate_left
  ·
   rw [if_neg c91] at H; have c91b0 := decide_eq_false c91; clear c91; replace H := Option.bind_eq_some_iff.mp H; obtain ⟨⟨t648, t649⟩, A980, H⟩ := H; dsimp only at H; have A98 := ak A980; clear A980; replace H := Option.bind_eq_some_iff.mp H; obtain ⟨t652, A990, H⟩ := H; have A99 := ak A990; clear A990; replace H := Option.bind_eq_some_iff.mp H; obtain ⟨t653, A1000, H⟩ := H; have A100 := ak A1000; clear A1000; have H' := ak H; clear H; have ⟨_, _⟩ := nn NB595_600; have ⟨_, _⟩ := nn NB595_635; have ⟨_, _, _, _⟩ := cf2 BK595
   go_wp2_with (first | ((with_reducible refine gate_callee (f := 56) rfl ?_); refine gl 134 Try.func56 #[.agg #[.int .i64 a0_0, .slice A0_1 l0_1.length c0_1], .slice Ao80 x12_2.length co80] ?_; (with_reducible refine (compassref11_Residual.calls k3 a0_0 _ _ l0_1 _ _ x12_2 t648 t649 _ ?side1 ?side2 ?side3 ?side4 A98.out).mono ?_); (case side1 => exact Kd.C_below HR0_1.out lb); (case side2 => exact HC0_1.out); (case side3 => exact cR HO_12); (case side4 => exact (Kd.R_reads' HO_12.out).2.1); rintro e w104 ⟨v650, rfl, ho0, hb⟩; refine ⟨_, rfl, ?_⟩; have n_ := a11 (ro HO_12 hb) (ro HO_15 hb) (ro HO_16 hb) (ro HO_19 hb) (Kd.R_elder' (rx HO_601001.out) (Kd.R_base ho0) hb) (Kd.R_elder' (rx HO_636001.out) (Kd.R_base ho0) hb) (Kd.R_lower (Kd.R_new' (Kd.R_new' (Kd.R_newM (M := fun k_ => (w.heap.size ≤ k_)) ho0 (below_size lb) (fun k_ h_ => h_)) (Kd.R_lt (rx HO_601001.out))) (Kd.R_lt (rx HO_636001.out))) (below_size lb)) (bo BK595 hb) (bo BK600 hb) (bo BK635 hb) (bl hb); clear HO_12 HO_15 HO_16 HO_19 HO_601001 HO_636001 BK595 BK600 BK635 HB; obtain ⟨HO_12, HO_15, HO_16, HO_19, HO_601001, HO_636001, HO651, BK595, BK600, BK635, HB⟩ := n_; clear hb; (try clear ho0); obtain ⟨Ao105, co105, eo105⟩ := Kd.R_slice HO651.out; subst eo105; obtain ⟨Ao106, co106, eo106⟩ := Kd.R_slice HO_19.out; subst eo106) | ((with_reducible refine gate_callee (f := 59) rfl ?_); refine gl 136 Try.func59 #[.agg #[.int .i64 t648, .slice Ao105 t649.length co105], .slice Ao106 x19_3.length co106] ?_; (with_reducible refine (compassref11_room.calls k3 t648 _ _ t649 _ _ x19_3 t652 _ ?side1 ?side2 ?side3 ?side4 A99.out).mono ?_); (case side1 => exact cR HO651); (case side2 => exact (Kd.R_reads' HO651.out).2.1); (case side3 => exact cR HO_19); (case side4 => exact (Kd.R_reads' HO_19.out).2.1); rintro e w107 ⟨rfl, hb⟩; refine ⟨_, rfl, ?_⟩; have n_ := a11 (ro HO_12 hb) (ro HO_15 hb) (ro HO_16 hb) (ro HO_19 hb) (ro HO_601001 hb) (ro HO_636001 hb) (ro HO651 hb) (bo BK595 hb) (bo BK600 hb) (bo BK635 hb) (bl hb); clear HO_12 HO_15 HO_16 HO_19 HO_601001 HO_636001 HO651 BK595 BK600 BK635 HB; obtain ⟨HO_12, HO_15, HO_16, HO_19, HO_601001, HO_636001, HO651, BK595, BK600, BK635, HB⟩ := n_; clear hb) | ((with_reducible refine gate_callee (f := 58) rfl ?_); refine gl 137 Try.func58 #[.slice Ao80 x12_2.length co80, .slice Ao106 x19_3.length co106, .int .i64 t652] ?_; (with_reducible refine (compassref11_change.calls k3 _ _ x12_2 _ _ x19_3 t652 t653 _ ?side1 ?side2 ?side3 ?side4 A100.out).mono ?_); (case side1 => exact cR HO_12); (case side2 => exact (Kd.R_reads' HO_12.out).2.1); (case side3 => exact cR HO_19); (case side4 => exact (Kd.R_reads' HO_19.out).2.1); rintro e w108 ⟨v654, rfl, ho0, hb⟩; refine ⟨_, rfl, ?_⟩; have n_ := a12 (Kd.R_elder' (rx HO_12.out) (Kd.R_base ho0) hb) (ro HO_15 hb) (ro HO_16 hb) (ro HO_19 hb) (ro HO_601001 hb) (ro HO_636001 hb) (ro HO651 hb) (Kd.R_lower (Kd.R_new' (Kd.R_newM (M := fun k_ => (w.heap.size ≤ k_)) ho0 (below_size lb) (fun k_ h_ => h_)) (Kd.R_lt (rx HO_12.out))) (below_size lb)) (bo BK595 hb) (bo BK600 hb) (bo BK635 hb) (bl hb); clear HO_12 HO_15 HO_16 HO_19 HO_601001 HO_636001 HO651 BK595 BK600 BK635 HB; obtain ⟨HO_12, HO_15, HO_16, HO_19, HO_601001, HO_636001, HO651, HO655, BK595, BK600, BK635, HB⟩ := n_; clear hb; (try clear ho0)))
   go_roundg k3
   case measure => have := HK1.out; have := HK2.out; have := HK3.out; omega
   case rel => exact ⟨(t653), H', ⟨by have := HK1.out; have := HK2.out; have := HK3.out; omega⟩, ⟨by exact rx (Kd.R_mono HO655.out (fun _ hk => hk.1.1))⟩, ⟨by exact rx (Kd.R_mono HO_601001.out (fun _ hk => hk.1.1))⟩, xb BK595, xb BK600, ⟨lb⟩⟩
  rw [if_pos c91] at H; have c91b0 := decide_eq_true c91; clear c91; replace H := if3 H; obtain ⟨c92b0, c93b0, c94b0, H⟩ := H; replace H := ifn H; obtain ⟨c95, H⟩ := H; have LMc95 := ak c95; clear c95; obtain ⟨y645, hy645⟩ : ∃ y_ : List Int, y_ = (x19_3 ++ [rd t632 (rd t636 x20_3)]) := ⟨_, rfl⟩; replace H : (compassref11_MinCost.l2 k3 x12_2 t632 t636 y645 (wrap64 (x20_3 + 1)) a0_0 l0_1) = some (r1, r2, r3, r4) := by first | (rw [hy645]; exact H) | exact H
  have Ny645 := ak hy645; clear hy645; have H' := ak H; clear H; obtain ⟨p643, q643, ad643, e643, hx643_0⟩ := wq (Kd.at_int (Kd.R_reads' HO_16.out).2.2 x20_3); cases e643; obtain ⟨Ao96, co96, eo96⟩ := Kd.R_slice HO_15.out; subst eo96; obtain ⟨p644, q644, ad644, e644, hx644_0⟩ := wq (Kd.at_int (Kd.R_reads' HO_15.out).2.2 (rd t636 x20_3)); cases e644
  go_wp2_with (first | ((with_reducible refine gate_builtin (b := .append) (xs := #[.tmp 120, .tmp 128]) rfl ?_); at_builtin; refine Kd.R_append (Kd.int .i64) (w0 := w) w.heap.size rfl (.tmp 120) (.tmp 128) 70 3 (.int .i64 0) 8 rfl Try.underlying70 info3 rfl (by decide) (by omega) u19 x19_3 (rd t632 (rd t636 x20_3)) [.int .i64 (rd t632 (rd t636 x20_3))] (fun k_ => (w.heap.size ≤ k_) ∧ some k_ ≠ (.slice (some ad644) t632.length co96 : Value).ownBlock ∧ some k_ ≠ (.slice (some ad643) t636.length co90 : Value).ownBlock) (fun _ => False) rfl rfl ?aP (fun _ hk => hk.elim) ?aF ?aO ?aB ?aS ?aL ?_; (case aP => exact rfl); (case aB => exact lb); (case aF => exact (fun k_ hk => ⟨(Nat.le_trans (below_size lb) hk), Kd.fresh' (Kd.R_lt (rx HO_15.out)) k_ hk, Kd.fresh' (Kd.R_lt (rx HO_16.out)) k_ hk⟩)); (case aO => exact (rx HO_19.out)); (case aS => exact (below_size lb)); (case aL => have := LMc95.out; omega); intro v646 w97 ho hb hg hat; rw [← Ny645.out] at ho; have n_ := a10 (Kd.R_over' (rx HO_12.out) (Kd.R_typed (rx HO_19.out)) (by decide) hg) (Kd.R_after (ok := (fun k_ => (w.heap.size ≤ k_) ∧ some k_ ≠ (.slice (some ad643) t636.length co90 : Value).ownBlock)) (by exact rx (Kd.R_mono HO_15.out (fun _ hk => ⟨⟨hk.1, hk.2.1⟩, hk.2.2⟩))) hg hat) (Kd.R_after (ok := (fun k_ => (w.heap.size ≤ k_) ∧ some k_ ≠ (.slice (some ad644) t632.length co96 : Value).ownBlock)) (by exact rx (Kd.R_mono HO_16.out (fun _ hk => ⟨⟨hk.1, hk.2.1⟩, hk.2.2⟩))) hg hat) (Kd.R_over' (rx HO_601001.out) (Kd.R_typed (rx HO_19.out)) (by decide) hg) (Kd.R_over' (rx HO_636001.out) (Kd.R_typed (rx HO_19.out)) (by decide) hg) (blk_grown (bx BK595.out) hg (Kd.R_ne HO_19.out BK595.out (by decide))) (blk_grown (bx BK600.out) hg (Kd.R_ne HO_19.out BK600.out (by decide))) (blk_grown (bx BK635.out) hg (Kd.R_ne HO_19.out BK635.out (by decide))) hb ho; clear HO_12 HO_15 HO_16 HO_601001 HO_636001 BK595 BK600 BK635 HB HO_19; obtain ⟨HO_12, HO_15, HO_16, HO_601001, HO_636001, BK595, BK600, BK635, HB, HO647⟩ := n_; clear ho hb hg hat))
  go_roundg k3
  case measure => have := HK1.out; have := HK2.out; have := HK3.out; omega
  case rel => exact ⟨(y645), (wrap64 (x20_3 + 1)), sr, H', ⟨by have := HK1.out; have := HK2.out; have := HK3.out; omega⟩, ⟨rx HO_12.out⟩, ⟨by exact rx (Kd.R_mono HO_15.out (fun _ hk => ⟨hk.1.1, ⟨hk.1.2, hk.2⟩⟩))⟩, ⟨by exact rx (Kd.R_mono HO_16.out (fun _ hk => ⟨hk.1.1, ⟨hk.1.2, hk.2⟩⟩))⟩, ⟨rx HO647.out⟩, ⟨rx HO_601001.out⟩, ⟨rx HO_636001.out⟩, xb BK595, xb BK600, xb BK635, ⟨lb⟩⟩
 rw [if_pos c12] at H; have c12b0 := decide_eq_true c12; clear c12; replace H := if2 H; obtain ⟨c13b0, c14b0, H⟩ := H
 by_cases c15 : (rd l1 x11_1) > 0
 rotate_left
 ·
  rw [if_neg c15] at H; have c15b0 := decide_eq_false c15; clear c15; replace H := ifn H; obtain ⟨c23, H⟩ := H; have LMc23 := ak c23; clear c23; obtain ⟨y608, hy608⟩ : ∃ y_ : List (S98), y_ = (x601001_1 ++ [(⟨x11_1, wrap64 (a0_0 + 1), wrap64 (-(rd l1 x11_1)), 0⟩ : S98)]) := ⟨_, rfl⟩; replace H : (compassref11_MinCost.l0 k1 l1 a0_0 x10_1 (wrap64 (x11_1 + 1)) a0_0 l0_1 (wrap64 (t596 + 2)) y608) = some (r1, r2, r3, r4) := by first | (rw [hy608]; exact H) | exact H
  have Ny608 := ak hy608; clear hy608; have H' := ak H; clear H; have ⟨_, _⟩ := nn NB595_600; have ⟨_, _, _, _⟩ := cf2 BK595; obtain ⟨p601, q601, ad601, e601, hx601_0⟩ := wq (Kd.at_int HR1.out x11_1); cases e601
  (try replace hx601_0 := hbc HB hx601_0)
  try go_wp2
  have n_ := a4 (Kd.R_drew HO_601001.out) (blk_drew BK595.out) (blk_drew BK600.out) (below_drew1 HB.out); clear HO_601001 BK595 BK600 HB; obtain ⟨HO_601001, BK595, BK600, HB⟩ := n_; obtain ⟨p607, q607, ad607, e607, hx607_0⟩ := wq (Kd.at_int HR1.out x11_1); have hw607_0 := hx607_0
  obtain rfl : ad601 = ad607 := (by injection e607)
  (try replace hx607_0 := hbc HB hx607_0)
  refine stC 15 [14] (cX (bc0 BK600) (cX (bc1 BK600) (cY (hbc HB hw607_0)))) compassref11_MinCost.tab11 compassref11_MinCost.bits11 fun hHeld HT_ HW_ => ?_
  generalize wr.drew = w26 at HO_601001 BK595 BK600 HB hx607_0 hHeld ⊢
  refine pv HT_ 0 58 ?_; refine pv HT_ 2 60 ?_; refine pv HT_ 3 61 ?_; refine pv HT_ 4 62 ?_; refine pv HT_ 5 63 ?_; refine pv HT_ 6 64 ?_; refine pv HT_ 7 65 ?_; refine tv HT_ HW_ hHeld 1 59 ?_; refine tv HT_ HW_ hHeld 8 66 ?_; refine pv HT_ 9 67 ?_; refine pv HT_ 10 68 ?_
  refine one_ (i := 11) (N := some 69) #[T, T, T, T, T, T, T, T, T, T, T, T, F, F, F] rfl rfl (one_of HT_.out (by kernel_rfl)) (by decide) (fun K hK => ?_)
  refine value_ (w1 := ?_) (v := ?_) (by rfl) rfl ?_ ?_
  rotate_left 2
  ·
   go_simp
   constructor
   ·
    rfl
   ·
    rfl
  refine hK.out _ _ ⟨(blk_cell (blk_alloc BK600.out _) 0).trans rfl, (blk_cell (blk_alloc BK600.out _) 1).trans rfl, (World.cell?_alloc_lt _ _ _ (World.block_lt_of_cell? _ _ ((hbc HB hw607_0)))).trans ((hbc HB hw607_0))⟩ (fun hHeld => ?_)
  clear hK K
  refine norm_ (a' := ?_) ?_ ?_
  rotate_left
  ·
   show Act.put _ (some 69) _ = _
   simp only [Act.put, sA, sZ, sS, i64_w, i32_w]
   rfl
  refine one_ (i := 12) (N := some 70) #[T, T, T, T, T, T, T, T, T, T, T, T, T, F, F] rfl rfl (one_of HT_.out (by kernel_rfl)) (by decide) (fun K hK => ?_)
  refine Kd.R_append_step k98 (w0 := w) w.heap.size (by rfl) (.tmp 59) (.tmp 69) 22 98 (.agg #[(.int .i64 0), (.int .i64 0), (.int .i64 0), (.int .i64 0)]) 32 rfl Try.underlying22 info98 rfl (by decide) (by omega) u601001 x601001_1 (⟨x11_1, wrap64 (a0_0 + 1), wrap64 (-(rd l1 x11_1)), 0⟩ : S98) [.int .i64 x11_1, .int .i64 (wrap64 (a0_0 + 1)), .int .i64 (wrap64 (-(rd l1 x11_1))), .int .i64 0] (fun k_ => (w.heap.size ≤ k_)) (fun _ => False) rfl rfl ?aP (fun _ hk => hk.elim) ?aF ?aO ?aB ?aS ?aL ?_
  (case aP => exact k98_mkM _ _ _ (⟨x11_1, wrap64 (a0_0 + 1), wrap64 (-(rd l1 x11_1)), 0⟩ : S98))
  (case aB => exact lb)
  (case aF => exact (fun k_ hk => (Nat.le_trans (below_size lb) hk)))
  (case aO => exact (rx HO_601001.out))
  (case aS => exact (below_size lb))
  (case aL => have := LMc23.out; omega)
  intro v609 w27 ho hb hg hat; rw [← Ny608.out] at ho
  have n_ := a4 (blk_grown (bx BK595.out) hg (Kd.R_ne HO_601001.out BK595.out (by decide))) (blk_grown (bx BK600.out) hg (Kd.R_ne HO_601001.out BK600.out (by decide))) hb ho; clear BK595 BK600 HB HO_601001; obtain ⟨BK595, BK600, HB, HO610⟩ := n_
  clear ho hb hg hat; obtain ⟨Ao28, co28, eo28⟩ := Kd.R_slice HO610.out
  (first | subst eo28 | (injection eo28 with f1_ f2_ f3_; have f4_ := f1_.symm; have f5_ := f3_.symm; clear f1_ f2_ f3_; subst f4_; subst f5_))
  refine hK.out _ _ ⟨(blk_cell BK600.out 0).trans rfl, (blk_cell BK600.out 1).trans rfl, (hbc HB hw607_0)⟩ (fun hHeld => ?_)
  clear hK K
  refine norm_ (a' := ?_) ?_ ?_
  rotate_left
  ·
   show Act.put _ (some 70) _ = _
   simp only [Act.put, sA, sZ, sS, i64_w, i32_w]
   rfl
  refine pv HT_ 13 71 ?_
  refine last_ (i := 14) (N := none) #[T, T, T, T, T, T, T, T, T, T, T, T, T, T, T] rfl rfl (one_of HT_.out (by kernel_rfl)) (by decide) (fun K hK => ?_)
  have hs29 : w27.cell? ⟨gb600, 1, none⟩ = some (u601001) := (blk_cell BK600.out 1).trans rfl; have hfs29 := bf BK600 1; have hns29_0 := NB595_600.out; have hms29_0 := NB600_595.out
  refine skip_ (w1 := ?_) (by rfl) rfl ?_ ?_
  rotate_left
  ·
   go_simp
   rfl
  refine hK.out _ _ ?_
  clear hK K
  refine done_ (done_of HT_.out (by kernel_rfl)) ?_
  try go_wp2
  go_roundg k1
  case measure => have := HK1.out; omega
  case rel => exact ⟨(x10_1), (wrap64 (x11_1 + 1)), (y608), (.slice Ao28 y608.length co28), sr, sr, H', ⟨by have := HK1.out; omega⟩, ⟨by exact rx (Kd.R_mono (Kd.R_far (p := ⟨gb600, 1, none⟩) (Kd.R_types HO610.out BK600.out (by decide)) (fun _ hk => hk.2) (.slice Ao28 y608.length co28)) (fun _ hk => hk.1))⟩, ⟨by (with_reducible repeat (first | refine blk_drewN ?_ _ | refine blk_drew ?_ | refine blk_alloc ?_ _)); refine blk_far ?_ NB595_600.out _; exact bx BK595.out⟩, ⟨by (with_reducible repeat (first | refine blk_drewN ?_ _ | refine blk_drew ?_ | refine blk_alloc ?_ _)); refine blk_put (cs := #[.int .i64 (wrap64 (t596 + 2)), u601001]) ?_ 1 _ rfl; exact bx BK600.out⟩, ⟨lb⟩⟩
 rw [if_pos c15] at H; have c15b0 := decide_eq_true c15; clear c15; replace H := ifn H; obtain ⟨c16, H⟩ := H; have LMc16 := ak c16; clear c16; obtain ⟨y603, hy603⟩ : ∃ y_ : List (S98), y_ = (x601001_1 ++ [(⟨a0_0, x11_1, rd l1 x11_1, 0⟩ : S98)]) := ⟨_, rfl⟩; replace H : (compassref11_MinCost.l0 k1 l1 a0_0 (wrap64 (x10_1 + (rd l1 x11_1))) (wrap64 (x11_1 + 1)) a0_0 l0_1 (wrap64 (t596 + 2)) y603) = some (r1, r2, r3, r4) := by first | (rw [hy603]; exact H) | exact H
 have Ny603 := ak hy603; clear hy603; have H' := ak H; clear H; have ⟨_, _⟩ := nn NB595_600; have ⟨_, _, _, _⟩ := cf2 BK595; obtain ⟨p601, q601, ad601, e601, hx601_0⟩ := wq (Kd.at_int HR1.out x11_1); cases e601
 (try replace hx601_0 := hbc HB hx601_0)
 try go_wp2
 have n_ := a4 (Kd.R_drew HO_601001.out) (blk_drew BK595.out) (blk_drew BK600.out) (below_drew1 HB.out); clear HO_601001 BK595 BK600 HB; obtain ⟨HO_601001, BK595, BK600, HB⟩ := n_; obtain ⟨p602, q602, ad602, e602, hx602_0⟩ := wq (Kd.at_int HR1.out x11_1); have hw602_0 := hx602_0
 obtain rfl : ad601 = ad602 := (by injection e602)
 (try replace hx602_0 := hbc HB hx602_0)
 refine stC 13 [12] (cX (bc0 BK600) (cX (bc1 BK600) (cY (hbc HB hw602_0)))) compassref11_MinCost.tab9 compassref11_MinCost.bits9 fun hHeld HT_ HW_ => ?_
 generalize wr.drew = w19 at HO_601001 BK595 BK600 HB hx602_0 hHeld ⊢
 refine pv HT_ 0 40 ?_; refine pv HT_ 2 42 ?_; refine pv HT_ 3 43 ?_; refine pv HT_ 4 44 ?_; refine pv HT_ 5 45 ?_; refine pv HT_ 6 46 ?_; refine tv HT_ HW_ hHeld 1 41 ?_; refine tv HT_ HW_ hHeld 7 47 ?_; refine pv HT_ 8 48 ?_
 refine one_ (i := 9) (N := some 49) #[T, T, T, T, T, T, T, T, T, T, F, F, F] rfl rfl (one_of HT_.out (by kernel_rfl)) (by decide) (fun K hK => ?_)
 refine value_ (w1 := ?_) (v := ?_) (by rfl) rfl ?_ ?_
 rotate_left 2
 ·
  go_simp
  constructor
  ·
   rfl
  ·
   rfl
 refine hK.out _ _ ⟨(blk_cell (blk_alloc BK600.out _) 0).trans rfl, (blk_cell (blk_alloc BK600.out _) 1).trans rfl, (World.cell?_alloc_lt _ _ _ (World.block_lt_of_cell? _ _ ((hbc HB hw602_0)))).trans ((hbc HB hw602_0))⟩ (fun hHeld => ?_)
 clear hK K
 refine norm_ (a' := ?_) ?_ ?_
 rotate_left
 ·
  show Act.put _ (some 49) _ = _
  simp only [Act.put, sA, sZ, sS, i64_w, i32_w]
  rfl
 refine one_ (i := 10) (N := some 50) #[T, T, T, T, T, T, T, T, T, T, T, F, F] rfl rfl (one_of HT_.out (by kernel_rfl)) (by decide) (fun K hK => ?_)
 refine Kd.R_append_step k98 (w0 := w) w.heap.size (by rfl) (.tmp 41) (.tmp 49) 22 98 (.agg #[(.int .i64 0), (.int .i64 0), (.int .i64 0), (.int .i64 0)]) 32 rfl Try.underlying22 info98 rfl (by decide) (by omega) u601001 x601001_1 (⟨a0_0, x11_1, rd l1 x11_1, 0⟩ : S98) [.int .i64 a0_0, .int .i64 x11_1, .int .i64 (rd l1 x11_1), .int .i64 0] (fun k_ => (w.heap.size ≤ k_)) (fun _ => False) rfl rfl ?aP (fun _ hk => hk.elim) ?aF ?aO ?aB ?aS ?aL ?_
 (case aP => exact k98_mkM _ _ _ (⟨a0_0, x11_1, rd l1 x11_1, 0⟩ : S98))
 (case aB => exact lb)
 (case aF => exact (fun k_ hk => (Nat.le_trans (below_size lb) hk)))
 (case aO => exact (rx HO_601001.out))
 (case aS => exact (below_size lb))
 (case aL => have := LMc16.out; omega)
 intro v604 w20 ho hb hg hat; rw [← Ny603.out] at ho
 have n_ := a4 (blk_grown (bx BK595.out) hg (Kd.R_ne HO_601001.out BK595.out (by decide))) (blk_grown (bx BK600.out) hg (Kd.R_ne HO_601001.out BK600.out (by decide))) hb ho; clear BK595 BK600 HB HO_601001; obtain ⟨BK595, BK600, HB, HO605⟩ := n_
 clear ho hb hg hat; obtain ⟨Ao21, co21, eo21⟩ := Kd.R_slice HO605.out
 (first | subst eo21 | (injection eo21 with f1_ f2_ f3_; have f4_ := f1_.symm; have f5_ := f3_.symm; clear f1_ f2_ f3_; subst f4_; subst f5_))
 refine hK.out _ _ ⟨(blk_cell BK600.out 0).trans rfl, (blk_cell BK600.out 1).trans rfl, (hbc HB hw602_0)⟩ (fun hHeld => ?_)
 clear hK K
 refine norm_ (a' := ?_) ?_ ?_
 rotate_left
 ·
  show Act.put _ (some 50) _ = _
  simp only [Act.put, sA, sZ, sS, i64_w, i32_w]
  rfl
 refine pv HT_ 11 51 ?_
 refine last_ (i := 12) (N := none) #[T, T, T, T, T, T, T, T, T, T, T, T, T] rfl rfl (one_of HT_.out (by kernel_rfl)) (by decide) (fun K hK => ?_)
 have hs22 : w20.cell? ⟨gb600, 1, none⟩ = some (u601001) := (blk_cell BK600.out 1).trans rfl; have hfs22 := bf BK600 1; have hns22_0 := NB595_600.out; have hms22_0 := NB600_595.out
 refine skip_ (w1 := ?_) (by rfl) rfl ?_ ?_
 rotate_left
 ·
  go_simp
  rfl
 refine hK.out _ _ ?_
 clear hK K
 refine done_ (done_of HT_.out (by kernel_rfl)) ?_
 obtain ⟨p606, q606, ad606, e606, hx606_0⟩ := wq (Kd.at_int HR1.out x11_1)
 obtain rfl : ad601 = ad606 := (by injection e606)
 have hn606_0 := an hx606_0 GW600
 (try replace hx606_0 := hbc HB hx606_0)
 replace hx606_0 := cg ⟨gb600, 1, none⟩ (.slice Ao21 y603.length co21) hx606_0 hn606_0
 clear hn606_0
 try go_wp2
 go_roundg k1
 case measure => have := HK1.out; omega
 case rel => exact ⟨(wrap64 (x10_1 + (rd l1 x11_1))), (wrap64 (x11_1 + 1)), (y603), (.slice Ao21 y603.length co21), sr, sr, H', ⟨by have := HK1.out; omega⟩, ⟨by exact rx (Kd.R_mono (Kd.R_far (p := ⟨gb600, 1, none⟩) (Kd.R_types HO605.out BK600.out (by decide)) (fun _ hk => hk.2) (.slice Ao21 y603.length co21)) (fun _ hk => hk.1))⟩, ⟨by (with_reducible repeat (first | refine blk_drewN ?_ _ | refine blk_drew ?_ | refine blk_alloc ?_ _)); refine blk_far ?_ NB595_600.out _; exact bx BK595.out⟩, ⟨by (with_reducible repeat (first | refine blk_drewN ?_ _ | refine blk_drew ?_ | refine blk_alloc ?_ _)); refine blk_put (cs := #[.int .i64 (wrap64 (t596 + 2)), u601001]) ?_ 1 _ rfl; exact bx BK600.out⟩, ⟨lb⟩⟩
end Go.Proofs.Ytkdoihcjhccliaa.Q
