import Derived.Test.YtkdoihcjhccliaaV3
import Derived.Test.YtkdoihcjhccliaaQ0
import Derived.Test.YtkdoihcjhccliaaQ3
namespace Go.Proofs.Ytkdoihcjhccliaa.Q
open Go.RowKit Go.Proofs.YtkdoihcjhccliaaW.PrintWords Go.Proofs.YtkdoihcjhccliaaW.PrintLast Go.Proofs.YtkdoihcjhccliaaW.PrintMore
attribute [local go_sem] max2_int min2_int max_two min_two max_three min_three max_four min_four   -- for this text's walks alone
set_option linter.unusedVariables false
set_option linter.unusedSimpArgs false

/-! ### compassref11_Residual: function 56 -/
def compassref11_Residual.l0 : Nat → List Int → Int → Int → List (S98) → Int → List (S98) → Option (Int × (List (S98)))
  | 0, _, _, _, _, _, _ => none
  | k + 1, x1, x6, x329000, x329001, x331000, x331001 => if x6 < (x329001.length : Int) then (if 0 ≤ x6 then (if x6 < (x1.length : Int) then (if x331001.length < 4398046511104 then ((some (x331001 ++ [(⟨(rd_T98 x329001 x6).f0, (rd_T98 x329001 x6).f1, wrap64 (((rd_T98 x329001 x6).f2) - (rd x1 x6)), (rd_T98 x329001 x6).f3⟩ : S98)] : List (S98))).bind fun y334 => (if y334.length < 4398046511104 then (compassref11_Residual.l0 k x1 (wrap64 (x6 + 1)) x329000 x329001 x331000 (y334 ++ [(⟨(rd_T98 x329001 x6).f1, (rd_T98 x329001 x6).f0, rd x1 x6, wrap64 (-((rd_T98 x329001 x6).f3))⟩ : S98)])) else (none))) else (none)) else (none)) else (none)) else (some (x331000, x331001))
def compassref11_Residual.f (k : Nat) (a0_0 : Int) (l0_1 : List (S98)) (l1 : List Int) : Option (Int × (List (S98))) := compassref11_Residual.l0 k l1 0 a0_0 l0_1 a0_0 ([] : List (S98))
def compassref11_Residual.T6 : Bool × List (List Nat × List Nat) := (true, [([], []), ([0], [0]), ([], []), ([2], [2]), ([], []), ([4], [4]), ([], []), ([6], [6]), ([], []), ([], []), ([8, 9], [8, 9]), ([10], [10]), ([7, 11], [7, 11]), ([], []), ([13], [13]), ([3, 5, 12, 14], [3, 5, 12, 14]), ([15], [15]), ([1, 16], [1, 16]), ([0, 1, 2, 3, 4, 5, 6, 7, 8, 9, 10, 11, 12, 13, 14, 15, 16, 17], []), ([18, 17, 17, 0, 1, 2, 3, 4, 5, 6, 7, 8, 9, 10, 11, 12, 13, 14, 15, 16, 17], [17, 18])])
def compassref11_Residual.B6 : List Nat := [0, 1, 0, 4, 0, 16, 0, 64, 0, 0, 768, 1792, 4032, 0, 8192, 32764, 65532, 131071, 262143, 524287]
theorem compassref11_Residual.tab6 : rtab .any (opsOf Try.f56 6) = compassref11_Residual.T6 := by kernel_rfl
theorem compassref11_Residual.bits6 : waitsOk compassref11_Residual.T6.2 compassref11_Residual.B6 = true := by kernel_rfl
def compassref11_Residual.T7 : Bool × List (List Nat × List Nat) := (true, [([], []), ([0], [0]), ([], []), ([2], [2]), ([], []), ([4], [4]), ([], []), ([], []), ([6, 7], [6, 7]), ([8], [8]), ([], []), ([10], [10]), ([11], [11]), ([3, 5, 9, 12], [3, 5, 9, 12]), ([13], [13]), ([1, 14], [1, 14]), ([0, 1, 2, 3, 4, 5, 6, 7, 8, 9, 10, 11, 12, 13, 14, 15], []), ([16, 15, 15, 0, 1, 2, 3, 4, 5, 6, 7, 8, 9, 10, 11, 12, 13, 14, 15], [15, 16])])
def compassref11_Residual.B7 : List Nat := [0, 1, 0, 4, 0, 16, 0, 0, 192, 448, 0, 1024, 3072, 8188, 16380, 32767, 65535, 131071]
theorem compassref11_Residual.tab7 : rtab .any (opsOf Try.f56 7) = compassref11_Residual.T7 := by kernel_rfl
theorem compassref11_Residual.bits7 : waitsOk compassref11_Residual.T7.2 compassref11_Residual.B7 = true := by kernel_rfl
set_option maxHeartbeats 8000000 in
set_option maxRecDepth 100000 in
theorem compassref11_Residual.calls (k : Nat) (a0_0 : Int) (A0_1 : Option Addr) (c0_1 : Nat) (l0_1 : List (S98)) (A1 : Option Addr) (c1 : Nat) (l1 : List Int) (r1 : Int) (r2 : List (S98)) (w : World) (hr0_1 : Kd.C k98 w A0_1 l0_1.length l0_1) (hc0_1 : l0_1.length ≤ c0_1) (hr1 : Kd.C (Kd.int .i64) w A1 l1.length l1) (hc1 : l1.length ≤ c1) (h : compassref11_Residual.f k a0_0 l0_1 l1 = some (r1, r2)) :
    Calls Try.prog 56 #[.agg #[.int .i64 a0_0, .slice A0_1 l0_1.length c0_1], .slice A1 l1.length c1] w fun e w' => ∃ v1_ : Value, e = .returned (.agg #[.int .i64 r1, v1_]) ∧ Kd.R k98 98 w' w.heap.size (fun _ => True) v1_ r2 ∧ Below w.heap.size w w' := by
 have hu24 := Try.underlying24; have hu98 := Try.underlying98; have HR0_1 := ak hr0_1; have HC0_1 := ak hc0_1; clear hr0_1 hc0_1; have HR1 := ak hr1; have HC1 := ak hc1; clear hr1 hc1; have HB := ak (Below.refl w.heap.size w); have H : (compassref11_Residual.l0 k l1 0 a0_0 l0_1 a0_0 ([] : List (S98))) = some (r1, r2) := h; clear h; have H' := ak H; clear H
 go_enter Try.func56, Try.ntmps56
 go_wp2_with (first | ((with_reducible refine gate_dst (N := 2) rfl ?_); refine bxe 2 #[.int .i64 a0_0, .slice A0_1 l0_1.length c0_1] 24 ?_; intro gb328 hg w3 hbox hb; have n_ := a4 (bl hb) hbox (gw w hg) (gw w hg); clear HB; obtain ⟨HB, BK328, GW328, GE328⟩ := n_; clear hb hbox hg) | ((with_reducible refine gate_dst (N := 4) rfl ?_); refine bxe 4 #[.int .i64 0, .slice none 0 0] 24 ?_; intro gb329 hg w4 hbox hb; have n_ := a7 (bo BK328 hb) (bl hb) hbox (gw w hg) (gw w hg) (nl hg BK328) (nr hg BK328); clear BK328 HB; obtain ⟨BK328, HB, BK329, GW329, GE329, NB328_329, NB329_328⟩ := n_; clear hb hbox hg; have ⟨_, _⟩ := nn NB328_329; have ⟨_, _, _, _⟩ := cf2 BK328) | ((with_reducible refine gate_dst (N := 5) rfl ?_); refine bxe 5 #[.int .i64 0, .slice none 0 0] 24 ?_; intro gb330 hg w7 hbox hb; have n_ := a10 (bo BK328 hb) (bo BK329 hb) (bl hb) hbox (gw w hg) (gw w hg) (nl hg BK328) (nr hg BK328) (nl hg BK329) (nr hg BK329); clear BK328 BK329 HB; obtain ⟨BK328, BK329, HB, BK330, GW330, GE330, NB328_330, NB330_328, NB329_330, NB330_329⟩ := n_; clear hb hbox hg; have ⟨_, _⟩ := nn NB330_328; have ⟨_, _⟩ := nn NB330_329; have ⟨_, _, _, _⟩ := cf2 BK330))
 go_loopg [6] k (fun kq v6 w' => ∃ (x6_1 : Int) (x331001_1 : List (S98)) (u331001 : Value), v6 = .int .i64 x6_1 ∧ Aside0 (compassref11_Residual.l0 kq l1 x6_1 a0_0 l0_1 a0_0 x331001_1 = some (r1, r2)) ∧ Aside0 (kq ≤ k) ∧ Aside0 (Kd.R k98 98 w' w.heap.size (fun _ => True) u331001 x331001_1) ∧ Aside0 (w'.heap[gb328]? = some (.cells #[.int .i64 a0_0, (.slice A0_1 l0_1.length c0_1)] 24 (0, 0))) ∧ Aside0 (w'.heap[gb329]? = some (.cells #[.int .i64 0, (.slice none 0 0)] 24 (0, 0))) ∧ Aside0 (w'.heap[gb330]? = some (.cells #[.int .i64 a0_0, u331001] 24 (0, 0))) ∧ Aside0 (Below w.heap.size w w'))
 case atStart => exact ⟨(0), (([] : List (S98))), (.slice none 0 0), sr, H', ⟨Nat.le_refl _⟩, ⟨by first | exact Kd.R_nil _ _ _ _ _ | exact Kd.N_nil _ _ _ _ _ | exact Kd.V_nil _ _ _ _ _ | exact Kd.Q_nil _ _ _ _ _ | exact Kd.S_nil _ _ _ _ _⟩, ⟨by (with_reducible repeat (first | refine blk_drewN ?_ _ | refine blk_drew ?_ | refine blk_alloc ?_ _)); refine blk_far ?_ NB328_330.out _; (with_reducible repeat (first | refine blk_drewN ?_ _ | refine blk_drew ?_ | refine blk_alloc ?_ _)); refine blk_far ?_ NB328_330.out _; exact bx BK328.out⟩, ⟨by (with_reducible repeat (first | refine blk_drewN ?_ _ | refine blk_drew ?_ | refine blk_alloc ?_ _)); refine blk_far ?_ NB329_330.out _; (with_reducible repeat (first | refine blk_drewN ?_ _ | refine blk_drew ?_ | refine blk_alloc ?_ _)); refine blk_far ?_ NB329_330.out _; exact bx BK329.out⟩, ⟨by (with_reducible repeat (first | refine blk_drewN ?_ _ | refine blk_drew ?_ | refine blk_alloc ?_ _)); refine blk_put (cs := #[.int .i64 a0_0, .slice none 0 0]) ?_ 1 _ rfl; (with_reducible repeat (first | refine blk_drewN ?_ _ | refine blk_drew ?_ | refine blk_alloc ?_ _)); refine blk_put (cs := #[.int .i64 0, .slice none 0 0]) ?_ 0 _ rfl; exact bx BK330.out⟩, ⟨lb⟩⟩
 clear H'; obtain ⟨x6_1, x331001_1, u331001, rfl, HA, HK1, HO_331001, BK328, BK329, BK330, HB⟩ := hrel
 cases gk with
 | zero => exact absurd HA.out (by simp [compassref11_Residual.l0])
 | succ k1 => ?_
 have H := HA.out; clear HA
 simp only [compassref11_Residual.l0] at H
 by_cases c11 : x6_1 < (l0_1.length : Int)
 rotate_left
 ·
  rw [if_neg c11] at H; have c11b0 := decide_eq_false c11; clear c11
  simp only [Option.some.injEq, Prod.mk.injEq] at H
  obtain ⟨rfl, rfl⟩ := H; have ⟨_, _⟩ := nn NB328_329; have ⟨_, _⟩ := nn NB328_330; have ⟨_, _, _, _⟩ := cf2 BK328; have ⟨_, _⟩ := nn NB330_329; have ⟨_, _, _, _⟩ := cf2 BK330; have ⟨_, _, _, _⟩ := cf2 BK329; obtain ⟨Ao40, co40, eo40⟩ := Kd.R_slice HO_331001.out; subst eo40
  go_wp2
  refine bodyPost_ret (results_cell_row rfl _ _ gb329 24 #[.int .i64 a0_0, .slice Ao40 x331001_1.length co40] (0, 0) _ rfl (by (with_reducible repeat (first | refine blk_drewN ?_ _ | refine blk_drew ?_ | refine blk_alloc ?_ _)); refine blk_put (cs := #[.int .i64 a0_0, .slice none 0 0]) ?_ 1 _ rfl; (with_reducible repeat (first | refine blk_drewN ?_ _ | refine blk_drew ?_ | refine blk_alloc ?_ _)); refine blk_put (cs := #[.int .i64 0, .slice none 0 0]) ?_ 0 _ rfl; exact bx BK329.out) Try.underlying24 rfl (by kernel_rfl)) rfl ?_
  exact ⟨_, by first | rfl | (simp [errW_none, errW_some] <;> rfl) | (simp [*, errW_none, errW_some] <;> rfl), by exact rx (Kd.R_mono (Kd.R_far (p := ⟨gb329, 1, none⟩) (Kd.R_far (p := ⟨gb329, 0, none⟩) (Kd.R_types HO_331001.out BK329.out (by decide)) (fun _ hk => hk.2) (.int .i64 a0_0)) (fun _ hk => hk.2) (.slice Ao40 x331001_1.length co40)) (fun _ hk => trivial)), lb⟩
 rw [if_pos c11] at H; have c11b0 := decide_eq_true c11; clear c11; replace H := if2 H; obtain ⟨c12b0, c13b0, H⟩ := H; replace H := ifn H; obtain ⟨c14, H⟩ := H; have LMc14 := ak c14; clear c14; obtain ⟨y334, hy334⟩ : ∃ y_ : List (S98), y_ = (x331001_1 ++ [(⟨(rd_T98 l0_1 x6_1).f0, (rd_T98 l0_1 x6_1).f1, wrap64 (((rd_T98 l0_1 x6_1).f2) - (rd l1 x6_1)), (rd_T98 l0_1 x6_1).f3⟩ : S98)]) := ⟨_, rfl⟩; replace H : (if y334.length < 4398046511104 then (compassref11_Residual.l0 k1 l1 (wrap64 (x6_1 + 1)) a0_0 l0_1 a0_0 (y334 ++ [(⟨(rd_T98 l0_1 x6_1).f1, (rd_T98 l0_1 x6_1).f0, rd l1 x6_1, wrap64 (-((rd_T98 l0_1 x6_1).f3))⟩ : S98)])) else (none)) = some (r1, r2) := by first | (rw [hy334]; exact H) | exact H
 have Ny334 := ak hy334; clear hy334; replace H := ifn H; obtain ⟨c15, H⟩ := H; have LMc15 := ak c15; clear c15; obtain ⟨y338, hy338⟩ : ∃ y_ : List (S98), y_ = (y334 ++ [(⟨(rd_T98 l0_1 x6_1).f1, (rd_T98 l0_1 x6_1).f0, rd l1 x6_1, wrap64 (-((rd_T98 l0_1 x6_1).f3))⟩ : S98)]) := ⟨_, rfl⟩; replace H : (compassref11_Residual.l0 k1 l1 (wrap64 (x6_1 + 1)) a0_0 l0_1 a0_0 y338) = some (r1, r2) := by first | (rw [hy338]; exact H) | exact H
 have Ny338 := ak hy338; clear hy338; have H' := ak H; clear H; have ⟨_, _⟩ := nn NB328_329; have ⟨_, _⟩ := nn NB328_330; have ⟨_, _, _, _⟩ := cf2 BK328; obtain ⟨p331, q331, ad331, e331, hx331_0, hx331_1, hx331_2, hx331_3⟩ := wq (at_T98 HR0_1.out x6_1); cases e331
 (try replace hx331_0 := hbc HB hx331_0)
 (try replace hx331_1 := hbc HB hx331_1)
 (try replace hx331_2 := hbc HB hx331_2)
 (try replace hx331_3 := hbc HB hx331_3)
 try go_wp2_with (first | ((with_reducible refine gate_dst (N := 7) rfl ?_); refine bxe 7 #[.int .i64 0, .int .i64 0, .int .i64 0, .int .i64 0] 98 ?_; intro gb332 hg w19 hbox hb; have n_ := a14 (Kd.R_below (Kd.R_elderB (rx HO_331001.out) gb332 (Nat.le_of_eq hg.symm)) hb) (bo BK328 hb) (bo BK329 hb) (bo BK330 hb) (bl hb) hbox (gw w hg) (gw w hg) (nl hg BK328) (nr hg BK328) (nl hg BK329) (nr hg BK329) (nl hg BK330) (nr hg BK330); clear HO_331001 BK328 BK329 BK330 HB; obtain ⟨HO_331001, BK328, BK329, BK330, HB, BK332, GW332, GE332, NB328_332, NB332_328, NB329_332, NB332_329, NB330_332, NB332_330⟩ := n_; clear hb hbox hg; have ⟨_, _⟩ := nn NB332_328; have ⟨_, _⟩ := nn NB332_329; have ⟨_, _⟩ := nn NB332_330; have ⟨_, _, _, _, _, _, _, _⟩ := cf4 BK332))
 have n0_ : Aside0 (Kd.R k98 98 ((((w19.setCell ⟨gb332, 0, none⟩ (.int .i64 ((rd_T98 l0_1 x6_1).f0))).setCell ⟨gb332, 1, none⟩ (.int .i64 ((rd_T98 l0_1 x6_1).f1))).setCell ⟨gb332, 2, none⟩ (.int .i64 ((rd_T98 l0_1 x6_1).f2))).setCell ⟨gb332, 3, none⟩ (.int .i64 ((rd_T98 l0_1 x6_1).f3))) w.heap.size (fun k_ => k_ ≠ gb332) u331001 x331001_1) := ⟨by exact rx (Kd.R_mono (Kd.R_far (p := ⟨gb332, 3, none⟩) (Kd.R_far (p := ⟨gb332, 2, none⟩) (Kd.R_far (p := ⟨gb332, 1, none⟩) (Kd.R_far (p := ⟨gb332, 0, none⟩) (Kd.R_mono HO_331001.out (fun k_ hk => (⟨hk, hk.2⟩ : _ ∧ k_ ≠ gb332))) (fun _ hk => hk.2) (.int .i64 ((rd_T98 l0_1 x6_1).f0))) (fun _ hk => hk.2) (.int .i64 ((rd_T98 l0_1 x6_1).f1))) (fun _ hk => hk.2) (.int .i64 ((rd_T98 l0_1 x6_1).f2))) (fun _ hk => hk.2) (.int .i64 ((rd_T98 l0_1 x6_1).f3))) (fun _ hk => hk.1.2))⟩
 have n1_ : Aside0 (((((w19.setCell ⟨gb332, 0, none⟩ (.int .i64 ((rd_T98 l0_1 x6_1).f0))).setCell ⟨gb332, 1, none⟩ (.int .i64 ((rd_T98 l0_1 x6_1).f1))).setCell ⟨gb332, 2, none⟩ (.int .i64 ((rd_T98 l0_1 x6_1).f2))).setCell ⟨gb332, 3, none⟩ (.int .i64 ((rd_T98 l0_1 x6_1).f3))).heap[gb328]? = some (.cells #[.int .i64 a0_0, .slice (some ad331) l0_1.length c0_1] 24 (0, 0))) := ⟨by (with_reducible repeat (first | refine blk_drewN ?_ _ | refine blk_drew ?_ | refine blk_alloc ?_ _)); refine blk_far ?_ NB328_332.out _; (with_reducible repeat (first | refine blk_drewN ?_ _ | refine blk_drew ?_ | refine blk_alloc ?_ _)); refine blk_far ?_ NB328_332.out _; (with_reducible repeat (first | refine blk_drewN ?_ _ | refine blk_drew ?_ | refine blk_alloc ?_ _)); refine blk_far ?_ NB328_332.out _; (with_reducible repeat (first | refine blk_drewN ?_ _ | refine blk_drew ?_ | refine blk_alloc ?_ _)); refine blk_far ?_ NB328_332.out _; exact bx BK328.out⟩
 have n2_ : Aside0 (((((w19.setCell ⟨gb332, 0, none⟩ (.int .i64 ((rd_T98 l0_1 x6_1).f0))).setCell ⟨gb332, 1, none⟩ (.int .i64 ((rd_T98 l0_1 x6_1).f1))).setCell ⟨gb332, 2, none⟩ (.int .i64 ((rd_T98 l0_1 x6_1).f2))).setCell ⟨gb332, 3, none⟩ (.int .i64 ((rd_T98 l0_1 x6_1).f3))).heap[gb329]? = some (.cells #[.int .i64 0, .slice none 0 0] 24 (0, 0))) := ⟨by (with_reducible repeat (first | refine blk_drewN ?_ _ | refine blk_drew ?_ | refine blk_alloc ?_ _)); refine blk_far ?_ NB329_332.out _; (with_reducible repeat (first | refine blk_drewN ?_ _ | refine blk_drew ?_ | refine blk_alloc ?_ _)); refine blk_far ?_ NB329_332.out _; (with_reducible repeat (first | refine blk_drewN ?_ _ | refine blk_drew ?_ | refine blk_alloc ?_ _)); refine blk_far ?_ NB329_332.out _; (with_reducible repeat (first | refine blk_drewN ?_ _ | refine blk_drew ?_ | refine blk_alloc ?_ _)); refine blk_far ?_ NB329_332.out _; exact bx BK329.out⟩
 have n3_ : Aside0 (((((w19.setCell ⟨gb332, 0, none⟩ (.int .i64 ((rd_T98 l0_1 x6_1).f0))).setCell ⟨gb332, 1, none⟩ (.int .i64 ((rd_T98 l0_1 x6_1).f1))).setCell ⟨gb332, 2, none⟩ (.int .i64 ((rd_T98 l0_1 x6_1).f2))).setCell ⟨gb332, 3, none⟩ (.int .i64 ((rd_T98 l0_1 x6_1).f3))).heap[gb330]? = some (.cells #[.int .i64 a0_0, u331001] 24 (0, 0))) := ⟨by (with_reducible repeat (first | refine blk_drewN ?_ _ | refine blk_drew ?_ | refine blk_alloc ?_ _)); refine blk_far ?_ NB330_332.out _; (with_reducible repeat (first | refine blk_drewN ?_ _ | refine blk_drew ?_ | refine blk_alloc ?_ _)); refine blk_far ?_ NB330_332.out _; (with_reducible repeat (first | refine blk_drewN ?_ _ | refine blk_drew ?_ | refine blk_alloc ?_ _)); refine blk_far ?_ NB330_332.out _; (with_reducible repeat (first | refine blk_drewN ?_ _ | refine blk_drew ?_ | refine blk_alloc ?_ _)); refine blk_far ?_ NB330_332.out _; exact bx BK330.out⟩
 have n4_ : Aside0 (((((w19.setCell ⟨gb332, 0, none⟩ (.int .i64 ((rd_T98 l0_1 x6_1).f0))).setCell ⟨gb332, 1, none⟩ (.int .i64 ((rd_T98 l0_1 x6_1).f1))).setCell ⟨gb332, 2, none⟩ (.int .i64 ((rd_T98 l0_1 x6_1).f2))).setCell ⟨gb332, 3, none⟩ (.int .i64 ((rd_T98 l0_1 x6_1).f3))).heap[gb332]? = some (.cells #[.int .i64 ((rd_T98 l0_1 x6_1).f0), .int .i64 ((rd_T98 l0_1 x6_1).f1), .int .i64 ((rd_T98 l0_1 x6_1).f2), .int .i64 ((rd_T98 l0_1 x6_1).f3)] 98 (0, 0))) := ⟨by (with_reducible repeat (first | refine blk_drewN ?_ _ | refine blk_drew ?_ | refine blk_alloc ?_ _)); refine blk_put (cs := #[.int .i64 ((rd_T98 l0_1 x6_1).f0), .int .i64 ((rd_T98 l0_1 x6_1).f1), .int .i64 ((rd_T98 l0_1 x6_1).f2), .int .i64 0]) ?_ 3 _ rfl; (with_reducible repeat (first | refine blk_drewN ?_ _ | refine blk_drew ?_ | refine blk_alloc ?_ _)); refine blk_put (cs := #[.int .i64 ((rd_T98 l0_1 x6_1).f0), .int .i64 ((rd_T98 l0_1 x6_1).f1), .int .i64 0, .int .i64 0]) ?_ 2 _ rfl; (with_reducible repeat (first | refine blk_drewN ?_ _ | refine blk_drew ?_ | refine blk_alloc ?_ _)); refine blk_put (cs := #[.int .i64 ((rd_T98 l0_1 x6_1).f0), .int .i64 0, .int .i64 0, .int .i64 0]) ?_ 1 _ rfl; (with_reducible repeat (first | refine blk_drewN ?_ _ | refine blk_drew ?_ | refine blk_alloc ?_ _)); refine blk_put (cs := #[.int .i64 0, .int .i64 0, .int .i64 0, .int .i64 0]) ?_ 0 _ rfl; exact bx BK332.out⟩
 have n5_ : Aside0 (Below w.heap.size w ((((w19.setCell ⟨gb332, 0, none⟩ (.int .i64 ((rd_T98 l0_1 x6_1).f0))).setCell ⟨gb332, 1, none⟩ (.int .i64 ((rd_T98 l0_1 x6_1).f1))).setCell ⟨gb332, 2, none⟩ (.int .i64 ((rd_T98 l0_1 x6_1).f2))).setCell ⟨gb332, 3, none⟩ (.int .i64 ((rd_T98 l0_1 x6_1).f3)))) := ⟨lb⟩
 (try clear HO_331001)
 (try clear BK328)
 (try clear BK329)
 (try clear BK330)
 (try clear BK332)
 (try clear HB)
 generalize ((((w19.setCell ⟨gb332, 0, none⟩ (.int .i64 ((rd_T98 l0_1 x6_1).f0))).setCell ⟨gb332, 1, none⟩ (.int .i64 ((rd_T98 l0_1 x6_1).f1))).setCell ⟨gb332, 2, none⟩ (.int .i64 ((rd_T98 l0_1 x6_1).f2))).setCell ⟨gb332, 3, none⟩ (.int .i64 ((rd_T98 l0_1 x6_1).f3))) = w24 at n0_ n1_ n2_ n3_ n4_ n5_ ⊢
 have HO_331001 := n0_; have BK328 := n1_; have BK329 := n2_; have BK330 := n3_; have BK332 := n4_; have HB := n5_; clear n0_ n1_ n2_ n3_ n4_ n5_; have n_ := a6 (Kd.R_drew HO_331001.out) (blk_drew BK328.out) (blk_drew BK329.out) (blk_drew BK330.out) (blk_drew BK332.out) (below_drew1 HB.out); clear HO_331001 BK328 BK329 BK330 BK332 HB; obtain ⟨HO_331001, BK328, BK329, BK330, BK332, HB⟩ := n_; obtain ⟨p333, q333, ad333, e333, hx333_0⟩ := wq (Kd.at_int HR1.out x6_1); have hw333_0 := hx333_0; cases e333
 (try replace hx333_0 := hbc HB hx333_0)
 refine stC 20 [19] (cX (bc0 BK330) (cX (bc1 BK330) (cX (bc0 BK332) (cX (bc1 BK332) (cX (bc2 BK332) (cX (bc3 BK332) (cY (hbc HB hw333_0)))))))) compassref11_Residual.tab6 compassref11_Residual.bits6 fun hHeld HT_ HW_ => ?_
 generalize w24.drew = w25 at HO_331001 BK328 BK329 BK330 BK332 HB hx333_0 hHeld ⊢
 refine pv HT_ 0 23 ?_; refine pv HT_ 2 25 ?_; refine pv HT_ 4 27 ?_; refine pv HT_ 6 29 ?_; refine pv HT_ 8 31 ?_; refine pv HT_ 9 32 ?_; refine pv HT_ 10 33 ?_; refine pv HT_ 13 36 ?_; refine tv HT_ HW_ hHeld 1 24 ?_; refine tv HT_ HW_ hHeld 3 26 ?_; refine tv HT_ HW_ hHeld 5 28 ?_; refine tv HT_ HW_ hHeld 7 30 ?_; refine tv HT_ HW_ hHeld 11 34 ?_; refine pv HT_ 12 35 ?_; refine tv HT_ HW_ hHeld 14 37 ?_; refine pv HT_ 15 38 ?_
 refine one_ (i := 16) (N := some 39) #[T, T, T, T, T, T, T, T, T, T, T, T, T, T, T, T, T, F, F, F] rfl rfl (one_of HT_.out (by kernel_rfl)) (by decide) (fun K hK => ?_)
 refine value_ (w1 := ?_) (v := ?_) (by rfl) rfl ?_ ?_
 rotate_left 2
 ·
  go_simp
  constructor
  ·
   rfl
  ·
   rfl
 refine hK.out _ _ ⟨(blk_cell (blk_alloc BK330.out _) 0).trans rfl, (blk_cell (blk_alloc BK330.out _) 1).trans rfl, (blk_cell (blk_alloc BK332.out _) 0).trans rfl, (blk_cell (blk_alloc BK332.out _) 1).trans rfl, (blk_cell (blk_alloc BK332.out _) 2).trans rfl, (blk_cell (blk_alloc BK332.out _) 3).trans rfl, (World.cell?_alloc_lt _ _ _ (World.block_lt_of_cell? _ _ ((hbc HB hw333_0)))).trans ((hbc HB hw333_0))⟩ (fun hHeld => ?_)
 clear hK K
 refine norm_ (a' := ?_) ?_ ?_
 rotate_left
 ·
  show Act.put _ (some 39) _ = _
  simp only [Act.put, sA, sZ, sS, i64_w, i32_w]
  rfl
 refine one_ (i := 17) (N := some 40) #[T, T, T, T, T, T, T, T, T, T, T, T, T, T, T, T, T, T, F, F] rfl rfl (one_of HT_.out (by kernel_rfl)) (by decide) (fun K hK => ?_)
 refine Kd.R_append_step k98 (w0 := w) w.heap.size (by rfl) (.tmp 24) (.tmp 39) 22 98 (.agg #[(.int .i64 0), (.int .i64 0), (.int .i64 0), (.int .i64 0)]) 32 rfl Try.underlying22 info98 rfl (by decide) (by omega) u331001 x331001_1 (⟨(rd_T98 l0_1 x6_1).f0, (rd_T98 l0_1 x6_1).f1, wrap64 (((rd_T98 l0_1 x6_1).f2) - (rd l1 x6_1)), (rd_T98 l0_1 x6_1).f3⟩ : S98) [.int .i64 ((rd_T98 l0_1 x6_1).f0), .int .i64 ((rd_T98 l0_1 x6_1).f1), .int .i64 (wrap64 (((rd_T98 l0_1 x6_1).f2) - (rd l1 x6_1))), .int .i64 ((rd_T98 l0_1 x6_1).f3)] (fun k_ => k_ ≠ gb332) (fun _ => False) rfl rfl ?aP (fun _ hk => hk.elim) ?aF ?aO ?aB ?aS ?aL ?_
 (case aP => exact k98_mkM _ _ _ (⟨(rd_T98 l0_1 x6_1).f0, (rd_T98 l0_1 x6_1).f1, wrap64 (((rd_T98 l0_1 x6_1).f2) - (rd l1 x6_1)), (rd_T98 l0_1 x6_1).f3⟩ : S98))
 (case aB => exact lb)
 (case aF => exact (fun k_ hk => Kd.freshB (g := gb332) (o := .cells #[.int .i64 ((rd_T98 l0_1 x6_1).f0), .int .i64 ((rd_T98 l0_1 x6_1).f1), .int .i64 ((rd_T98 l0_1 x6_1).f2), .int .i64 ((rd_T98 l0_1 x6_1).f3)] 98 (0, 0)) (bx BK332.out) k_ hk))
 (case aO => exact (rx HO_331001.out))
 (case aS => exact (below_size lb))
 (case aL => have := LMc14.out; omega)
 intro v335 w26 ho hb hg hat; rw [← Ny334.out] at ho
 have n_ := a6 (blk_grown (bx BK328.out) hg (Kd.R_ne HO_331001.out BK328.out (by decide))) (blk_grown (bx BK329.out) hg (Kd.R_ne HO_331001.out BK329.out (by decide))) (blk_grown (bx BK330.out) hg (Kd.R_ne HO_331001.out BK330.out (by decide))) (blk_grown (bx BK332.out) hg (Kd.R_away HO_331001.out (fun _ hk => hk))) hb ho; clear BK328 BK329 BK330 BK332 HB HO_331001; obtain ⟨BK328, BK329, BK330, BK332, HB, HO336⟩ := n_
 clear ho hb hg hat; obtain ⟨Ao27, co27, eo27⟩ := Kd.R_slice HO336.out
 (first | subst eo27 | (injection eo27 with f1_ f2_ f3_; have f4_ := f1_.symm; have f5_ := f3_.symm; clear f1_ f2_ f3_; subst f4_; subst f5_))
 refine hK.out _ _ ⟨(blk_cell BK330.out 0).trans rfl, (blk_cell BK330.out 1).trans rfl, (blk_cell BK332.out 0).trans rfl, (blk_cell BK332.out 1).trans rfl, (blk_cell BK332.out 2).trans rfl, (blk_cell BK332.out 3).trans rfl, (hbc HB hw333_0)⟩ (fun hHeld => ?_)
 clear hK K
 refine norm_ (a' := ?_) ?_ ?_
 rotate_left
 ·
  show Act.put _ (some 40) _ = _
  simp only [Act.put, sA, sZ, sS, i64_w, i32_w]
  rfl
 refine pv HT_ 18 41 ?_
 refine last_ (i := 19) (N := none) #[T, T, T, T, T, T, T, T, T, T, T, T, T, T, T, T, T, T, T, T] rfl rfl (one_of HT_.out (by kernel_rfl)) (by decide) (fun K hK => ?_)
 have hs28 : w26.cell? ⟨gb330, 1, none⟩ = some (u331001) := (blk_cell BK330.out 1).trans rfl; have hfs28 := bf BK330 1; have hns28_0 := NB328_330.out; have hns28_1 := NB329_330.out; have hns28_3 := NB332_330.out; have hms28_0 := NB330_328.out; have hms28_1 := NB330_329.out; have hms28_3 := NB330_332.out
 refine skip_ (w1 := ?_) (by rfl) rfl ?_ ?_
 rotate_left
 ·
  go_simp
  rfl
 refine hK.out _ _ ?_
 clear hK K
 refine done_ (done_of HT_.out (by kernel_rfl)) ?_
 try go_wp2
 have n0_ : Aside0 (Kd.R k98 98 (w26.setCell ⟨gb330, 1, none⟩ (.slice Ao27 y334.length co27)) w.heap.size (fun k_ => k_ ≠ gb332) (.slice Ao27 y334.length co27) y334) := ⟨by exact rx (Kd.R_mono (Kd.R_far (p := ⟨gb330, 1, none⟩) (Kd.R_types HO336.out BK330.out (by decide)) (fun _ hk => hk.2) (.slice Ao27 y334.length co27)) (fun _ hk => hk.1))⟩
 have n1_ : Aside0 ((w26.setCell ⟨gb330, 1, none⟩ (.slice Ao27 y334.length co27)).heap[gb328]? = some (.cells #[.int .i64 a0_0, .slice (some ad331) l0_1.length c0_1] 24 (0, 0))) := ⟨by (with_reducible repeat (first | refine blk_drewN ?_ _ | refine blk_drew ?_ | refine blk_alloc ?_ _)); refine blk_far ?_ NB328_330.out _; exact bx BK328.out⟩
 have n2_ : Aside0 ((w26.setCell ⟨gb330, 1, none⟩ (.slice Ao27 y334.length co27)).heap[gb329]? = some (.cells #[.int .i64 0, .slice none 0 0] 24 (0, 0))) := ⟨by (with_reducible repeat (first | refine blk_drewN ?_ _ | refine blk_drew ?_ | refine blk_alloc ?_ _)); refine blk_far ?_ NB329_330.out _; exact bx BK329.out⟩
 have n3_ : Aside0 ((w26.setCell ⟨gb330, 1, none⟩ (.slice Ao27 y334.length co27)).heap[gb330]? = some (.cells #[.int .i64 a0_0, .slice Ao27 y334.length co27] 24 (0, 0))) := ⟨by (with_reducible repeat (first | refine blk_drewN ?_ _ | refine blk_drew ?_ | refine blk_alloc ?_ _)); refine blk_put (cs := #[.int .i64 a0_0, u331001]) ?_ 1 _ rfl; exact bx BK330.out⟩
 have n4_ : Aside0 ((w26.setCell ⟨gb330, 1, none⟩ (.slice Ao27 y334.length co27)).heap[gb332]? = some (.cells #[.int .i64 ((rd_T98 l0_1 x6_1).f0), .int .i64 ((rd_T98 l0_1 x6_1).f1), .int .i64 ((rd_T98 l0_1 x6_1).f2), .int .i64 ((rd_T98 l0_1 x6_1).f3)] 98 (0, 0))) := ⟨by (with_reducible repeat (first | refine blk_drewN ?_ _ | refine blk_drew ?_ | refine blk_alloc ?_ _)); refine blk_far ?_ NB332_330.out _; exact bx BK332.out⟩
 have n5_ : Aside0 (Below w.heap.size w (w26.setCell ⟨gb330, 1, none⟩ (.slice Ao27 y334.length co27))) := ⟨lb⟩
 (try clear HO336)
 (try clear BK328)
 (try clear BK329)
 (try clear BK330)
 (try clear BK332)
 (try clear HB)
 generalize (w26.setCell ⟨gb330, 1, none⟩ (.slice Ao27 y334.length co27)) = w29 at n0_ n1_ n2_ n3_ n4_ n5_ ⊢
 have HO336 := n0_; have BK328 := n1_; have BK329 := n2_; have BK330 := n3_; have BK332 := n4_; have HB := n5_; clear n0_ n1_ n2_ n3_ n4_ n5_; have n_ := a6 (Kd.R_drew HO336.out) (blk_drew BK328.out) (blk_drew BK329.out) (blk_drew BK330.out) (blk_drew BK332.out) (below_drew1 HB.out); clear HO336 BK328 BK329 BK330 BK332 HB; obtain ⟨HO336, BK328, BK329, BK330, BK332, HB⟩ := n_; obtain ⟨p337, q337, ad337, e337, hx337_0⟩ := wq (Kd.at_int HR1.out x6_1); have hw337_0 := hx337_0
 obtain rfl : ad333 = ad337 := (by injection e337)
 (try replace hx337_0 := hbc HB hx337_0)
 refine stC 18 [17] (cX (bc0 BK330) (cX (bc1 BK330) (cX (bc0 BK332) (cX (bc1 BK332) (cX (bc2 BK332) (cX (bc3 BK332) (cY (hbc HB hw337_0)))))))) compassref11_Residual.tab7 compassref11_Residual.bits7 fun hHeld HT_ HW_ => ?_
 generalize w29.drew = w30 at HO336 BK328 BK329 BK330 BK332 HB hx337_0 hHeld ⊢
 refine pv HT_ 0 42 ?_; refine pv HT_ 2 44 ?_; refine pv HT_ 4 46 ?_; refine pv HT_ 6 48 ?_; refine pv HT_ 7 49 ?_; refine pv HT_ 8 50 ?_; refine pv HT_ 10 52 ?_; refine tv HT_ HW_ hHeld 1 43 ?_; refine tv HT_ HW_ hHeld 3 45 ?_; refine tv HT_ HW_ hHeld 5 47 ?_; refine tv HT_ HW_ hHeld 9 51 ?_; refine tv HT_ HW_ hHeld 11 53 ?_; refine pv HT_ 12 54 ?_; refine pv HT_ 13 55 ?_
 refine one_ (i := 14) (N := some 56) #[T, T, T, T, T, T, T, T, T, T, T, T, T, T, T, F, F, F] rfl rfl (one_of HT_.out (by kernel_rfl)) (by decide) (fun K hK => ?_)
 refine value_ (w1 := ?_) (v := ?_) (by rfl) rfl ?_ ?_
 rotate_left 2
 ·
  go_simp
  constructor
  ·
   rfl
  ·
   rfl
 refine hK.out _ _ ⟨(blk_cell (blk_alloc BK330.out _) 0).trans rfl, (blk_cell (blk_alloc BK330.out _) 1).trans rfl, (blk_cell (blk_alloc BK332.out _) 0).trans rfl, (blk_cell (blk_alloc BK332.out _) 1).trans rfl, (blk_cell (blk_alloc BK332.out _) 2).trans rfl, (blk_cell (blk_alloc BK332.out _) 3).trans rfl, (World.cell?_alloc_lt _ _ _ (World.block_lt_of_cell? _ _ ((hbc HB hw337_0)))).trans ((hbc HB hw337_0))⟩ (fun hHeld => ?_)
 clear hK K
 refine norm_ (a' := ?_) ?_ ?_
 rotate_left
 ·
  show Act.put _ (some 56) _ = _
  simp only [Act.put, sA, sZ, sS, i64_w, i32_w]
  rfl
 refine one_ (i := 15) (N := some 57) #[T, T, T, T, T, T, T, T, T, T, T, T, T, T, T, T, F, F] rfl rfl (one_of HT_.out (by kernel_rfl)) (by decide) (fun K hK => ?_)
 refine Kd.R_append_step k98 (w0 := w) w.heap.size (by rfl) (.tmp 43) (.tmp 56) 22 98 (.agg #[(.int .i64 0), (.int .i64 0), (.int .i64 0), (.int .i64 0)]) 32 rfl Try.underlying22 info98 rfl (by decide) (by omega) (.slice Ao27 y334.length co27) y334 (⟨(rd_T98 l0_1 x6_1).f1, (rd_T98 l0_1 x6_1).f0, rd l1 x6_1, wrap64 (-((rd_T98 l0_1 x6_1).f3))⟩ : S98) [.int .i64 ((rd_T98 l0_1 x6_1).f1), .int .i64 ((rd_T98 l0_1 x6_1).f0), .int .i64 (rd l1 x6_1), .int .i64 (wrap64 (-((rd_T98 l0_1 x6_1).f3)))] (fun k_ => k_ ≠ gb332) (fun _ => False) rfl rfl ?aP (fun _ hk => hk.elim) ?aF ?aO ?aB ?aS ?aL ?_
 (case aP => exact k98_mkM _ _ _ (⟨(rd_T98 l0_1 x6_1).f1, (rd_T98 l0_1 x6_1).f0, rd l1 x6_1, wrap64 (-((rd_T98 l0_1 x6_1).f3))⟩ : S98))
 (case aB => exact lb)
 (case aF => exact (fun k_ hk => Kd.freshB (g := gb332) (o := .cells #[.int .i64 ((rd_T98 l0_1 x6_1).f0), .int .i64 ((rd_T98 l0_1 x6_1).f1), .int .i64 ((rd_T98 l0_1 x6_1).f2), .int .i64 ((rd_T98 l0_1 x6_1).f3)] 98 (0, 0)) (bx BK332.out) k_ hk))
 (case aO => exact (rx HO336.out))
 (case aS => exact (below_size lb))
 (case aL => have := LMc15.out; omega)
 intro v339 w31 ho hb hg hat; rw [← Ny338.out] at ho
 have n_ := a6 (blk_grown (bx BK328.out) hg (Kd.R_ne HO336.out BK328.out (by decide))) (blk_grown (bx BK329.out) hg (Kd.R_ne HO336.out BK329.out (by decide))) (blk_grown (bx BK330.out) hg (Kd.R_ne HO336.out BK330.out (by decide))) (blk_grown (bx BK332.out) hg (Kd.R_away HO336.out (fun _ hk => hk))) hb ho; clear BK328 BK329 BK330 BK332 HB HO336; obtain ⟨BK328, BK329, BK330, BK332, HB, HO340⟩ := n_
 clear ho hb hg hat; obtain ⟨Ao32, co32, eo32⟩ := Kd.R_slice HO340.out
 (first | subst eo32 | (injection eo32 with f1_ f2_ f3_; have f4_ := f1_.symm; have f5_ := f3_.symm; clear f1_ f2_ f3_; subst f4_; subst f5_))
 refine hK.out _ _ ⟨(blk_cell BK330.out 0).trans rfl, (blk_cell BK330.out 1).trans rfl, (blk_cell BK332.out 0).trans rfl, (blk_cell BK332.out 1).trans rfl, (blk_cell BK332.out 2).trans rfl, (blk_cell BK332.out 3).trans rfl, (hbc HB hw337_0)⟩ (fun hHeld => ?_)
 clear hK K
 refine norm_ (a' := ?_) ?_ ?_
 rotate_left
 ·
  show Act.put _ (some 57) _ = _
  simp only [Act.put, sA, sZ, sS, i64_w, i32_w]
  rfl
 refine pv HT_ 16 58 ?_
 refine last_ (i := 17) (N := none) #[T, T, T, T, T, T, T, T, T, T, T, T, T, T, T, T, T, T] rfl rfl (one_of HT_.out (by kernel_rfl)) (by decide) (fun K hK => ?_)
 have hs33 : w31.cell? ⟨gb330, 1, none⟩ = some (.slice Ao27 y334.length co27) := (blk_cell BK330.out 1).trans rfl; have hfs33 := bf BK330 1; have hns33_0 := NB328_330.out; have hns33_1 := NB329_330.out; have hns33_3 := NB332_330.out; have hms33_0 := NB330_328.out; have hms33_1 := NB330_329.out; have hms33_3 := NB330_332.out
 refine skip_ (w1 := ?_) (by rfl) rfl ?_ ?_
 rotate_left
 ·
  go_simp
  rfl
 refine hK.out _ _ ?_
 clear hK K
 refine done_ (done_of HT_.out (by kernel_rfl)) ?_
 try go_wp2
 go_roundg k1
 case measure => have := HK1.out; omega
 case rel => exact ⟨(wrap64 (x6_1 + 1)), (y338), (.slice Ao32 y338.length co32), sr, H', ⟨by have := HK1.out; omega⟩, ⟨by exact rx (Kd.R_mono (Kd.R_far (p := ⟨gb330, 1, none⟩) (Kd.R_types HO340.out BK330.out (by decide)) (fun _ hk => hk.2) (.slice Ao32 y338.length co32)) (fun _ hk => trivial))⟩, ⟨by (with_reducible repeat (first | refine blk_drewN ?_ _ | refine blk_drew ?_ | refine blk_alloc ?_ _)); refine blk_far ?_ NB328_330.out _; exact bx BK328.out⟩, ⟨by (with_reducible repeat (first | refine blk_drewN ?_ _ | refine blk_drew ?_ | refine blk_alloc ?_ _)); refine blk_far ?_ NB329_330.out _; exact bx BK329.out⟩, ⟨by (with_reducible repeat (first | refine blk_drewN ?_ _ | refine blk_drew ?_ | refine blk_alloc ?_ _)); refine blk_put (cs := #[.int .i64 a0_0, .slice Ao27 y334.length co27]) ?_ 1 _ rfl; exact bx BK330.out⟩, ⟨lb⟩⟩
end Go.Proofs.Ytkdoihcjhccliaa.Q
