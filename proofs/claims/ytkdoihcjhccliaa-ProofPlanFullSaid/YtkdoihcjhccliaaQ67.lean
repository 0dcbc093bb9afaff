import Derived.Test.YtkdoihcjhccliaaV4
import Derived.Test.YtkdoihcjhccliaaQ0
import Derived.Test.YtkdoihcjhccliaaQ3
namespace Go.Proofs.Ytkdoihcjhccliaa.Q
open Go.RowKit Go.Proofs.YtkdoihcjhccliaaW.PrintWords Go.Proofs.YtkdoihcjhccliaaW.PrintLast Go.Proofs.YtkdoihcjhccliaaW.PrintMore
attribute [local go_sem] max2_int min2_int max_two min_two max_three min_three max_four min_four   -- for this text's walks alone
set_option linter.unusedVariables false
set_option linter.unusedSimpArgs false

/-! ### compassref03_Copy: function 70 -/
def compassref03_Copy.l0 : Nat → Int → Int → List (S98) → Int → List (S98) → Option (Int × (List (S98)))
  | 0, _, _, _, _, _ => none
  | k + 1, x4, x476000, x476001, x478000, x478001 => if x4 < (x476001.length : Int) then (if 0 ≤ x4 then (if x478001.length < 4398046511104 then (compassref03_Copy.l0 k (wrap64 (x4 + 1)) x476000 x476001 x478000 (x478001 ++ [(⟨(rd_T98 x476001 x4).f0, (rd_T98 x476001 x4).f1, (rd_T98 x476001 x4).f2, (rd_T98 x476001 x4).f3⟩ : S98)])) else (none)) else (none)) else (some (x478000, x478001))
def compassref03_Copy.f (k : Nat) (a0_0 : Int) (l0_1 : List (S98)) : Option (Int × (List (S98))) := compassref03_Copy.l0 k 0 a0_0 l0_1 a0_0 ([] : List (S98))
def compassref03_Copy.T5 : Bool × List (List Nat × List Nat) := (true, [([], []), ([0], [0]), ([], []), ([2], [2]), ([], []), ([3, 4], [3, 4]), ([5], [5]), ([6], [6]), ([1, 7], [1, 7]), ([0, 1, 2, 3, 4, 5, 6, 7, 8], []), ([9, 8, 8, 0, 1, 2, 3, 4, 5, 6, 7, 8], [8, 9])])
def compassref03_Copy.B5 : List Nat := [0, 1, 0, 4, 0, 28, 60, 124, 255, 511, 1023]
theorem compassref03_Copy.tab5 : rtab .any (opsOf Try.f70 5) = compassref03_Copy.T5 := by kernel_rfl
theorem compassref03_Copy.bits5 : waitsOk compassref03_Copy.T5.2 compassref03_Copy.B5 = true := by kernel_rfl
set_option maxHeartbeats 8000000 in
set_option maxRecDepth 100000 in
theorem compassref03_Copy.calls (k : Nat) (a0_0 : Int) (A0_1 : Option Addr) (c0_1 : Nat) (l0_1 : List (S98)) (r1 : Int) (r2 : List (S98)) (w : World) (hr0_1 : Kd.C k98 w A0_1 l0_1.length l0_1) (hc0_1 : l0_1.length ≤ c0_1) (h : compassref03_Copy.f k a0_0 l0_1 = some (r1, r2)) :
    Calls Try.prog 70 #[.agg #[.int .i64 a0_0, .slice A0_1 l0_1.length c0_1]] w fun e w' => ∃ v1_ : Value, e = .returned (.agg #[.int .i64 r1, v1_]) ∧ Kd.R k98 98 w' w.heap.size (fun _ => True) v1_ r2 ∧ Below w.heap.size w w' := by
 have hu24 := Try.underlying24; have hu98 := Try.underlying98; have HR0_1 := ak hr0_1; have HC0_1 := ak hc0_1; clear hr0_1 hc0_1; have HB := ak (Below.refl w.heap.size w); have H : (compassref03_Copy.l0 k 0 a0_0 l0_1 a0_0 ([] : List (S98))) = some (r1, r2) := h; clear h; have H' := ak H; clear H
 go_enter Try.func70, Try.ntmps70
 go_wp2_with (first | ((with_reducible refine gate_dst (N := 1) rfl ?_); refine bxe 1 #[.int .i64 a0_0, .slice A0_1 l0_1.length c0_1] 24 ?_; intro gb475 hg w2 hbox hb; have n_ := a4 (bl hb) hbox (gw w hg) (gw w hg); clear HB; obtain ⟨HB, BK475, GW475, GE475⟩ := n_; clear hb hbox hg) | ((with_reducible refine gate_dst (N := 2) rfl ?_); refine bxe 2 #[.int .i64 0, .slice none 0 0] 24 ?_; intro gb476 hg w3 hbox hb; have n_ := a7 (bo BK475 hb) (bl hb) hbox (gw w hg) (gw w hg) (nl hg BK475) (nr hg BK475); clear BK475 HB; obtain ⟨BK475, HB, BK476, GW476, GE476, NB475_476, NB476_475⟩ := n_; clear hb hbox hg; have ⟨_, _⟩ := nn NB475_476; have ⟨_, _, _, _⟩ := cf2 BK475) | ((with_reducible refine gate_dst (N := 3) rfl ?_); refine bxe 3 #[.int .i64 0, .slice none 0 0] 24 ?_; intro gb477 hg w6 hbox hb; have n_ := a10 (bo BK475 hb) (bo BK476 hb) (bl hb) hbox (gw w hg) (gw w hg) (nl hg BK475) (nr hg BK475) (nl hg BK476) (nr hg BK476); clear BK475 BK476 HB; obtain ⟨BK475, BK476, HB, BK477, GW477, GE477, NB475_477, NB477_475, NB476_477, NB477_476⟩ := n_; clear hb hbox hg; have ⟨_, _⟩ := nn NB477_475; have ⟨_, _⟩ := nn NB477_476; have ⟨_, _, _, _⟩ := cf2 BK477))
 go_loopg [4] k (fun kq v4 w' => ∃ (x4_1 : Int) (x478001_1 : List (S98)) (u478001 : Value), v4 = .int .i64 x4_1 ∧ Aside0 (compassref03_Copy.l0 kq x4_1 a0_0 l0_1 a0_0 x478001_1 = some (r1, r2)) ∧ Aside0 (kq ≤ k) ∧ Aside0 (Kd.R k98 98 w' w.heap.size (fun _ => True) u478001 x478001_1) ∧ Aside0 (w'.heap[gb475]? = some (.cells #[.int .i64 a0_0, (.slice A0_1 l0_1.length c0_1)] 24 (0, 0))) ∧ Aside0 (w'.heap[gb476]? = some (.cells #[.int .i64 0, (.slice none 0 0)] 24 (0, 0))) ∧ Aside0 (w'.heap[gb477]? = some (.cells #[.int .i64 a0_0, u478001] 24 (0, 0))) ∧ Aside0 (Below w.heap.size w w'))
 case atStart => exact ⟨(0), (([] : List (S98))), (.slice none 0 0), sr, H', ⟨Nat.le_refl _⟩, ⟨by first | exact Kd.R_nil _ _ _ _ _ | exact Kd.N_nil _ _ _ _ _ | exact Kd.V_nil _ _ _ _ _ | exact Kd.Q_nil _ _ _ _ _ | exact Kd.S_nil _ _ _ _ _⟩, ⟨by (with_reducible repeat (first | refine blk_drewN ?_ _ | refine blk_drew ?_ | refine blk_alloc ?_ _)); refine blk_far ?_ NB475_477.out _; (with_reducible repeat (first | refine blk_drewN ?_ _ | refine blk_drew ?_ | refine blk_alloc ?_ _)); refine blk_far ?_ NB475_477.out _; exact bx BK475.out⟩, ⟨by (with_reducible repeat (first | refine blk_drewN ?_ _ | refine blk_drew ?_ | refine blk_alloc ?_ _)); refine blk_far ?_ NB476_477.out _; (with_reducible repeat (first | refine blk_drewN ?_ _ | refine blk_drew ?_ | refine blk_alloc ?_ _)); refine blk_far ?_ NB476_477.out _; exact bx BK476.out⟩, ⟨by (with_reducible repeat (first | refine blk_drewN ?_ _ | refine blk_drew ?_ | refine blk_alloc ?_ _)); refine blk_put (cs := #[.int .i64 a0_0, .slice none 0 0]) ?_ 1 _ rfl; (with_reducible repeat (first | refine blk_drewN ?_ _ | refine blk_drew ?_ | refine blk_alloc ?_ _)); refine blk_put (cs := #[.int .i64 0, .slice none 0 0]) ?_ 0 _ rfl; exact bx BK477.out⟩, ⟨lb⟩⟩
 clear H'; obtain ⟨x4_1, x478001_1, u478001, rfl, HA, HK1, HO_478001, BK475, BK476, BK477, HB⟩ := hrel
 cases gk with
 | zero => exact absurd HA.out (by simp [compassref03_Copy.l0])
 | succ k1 => ?_
 have H := HA.out; clear HA
 simp only [compassref03_Copy.l0] at H
 by_cases c10 : x4_1 < (l0_1.length : Int)
 rotate_left
 ·
  rw [if_neg c10] at H; have c10b0 := decide_eq_false c10; clear c10
  simp only [Option.some.injEq, Prod.mk.injEq] at H
  obtain ⟨rfl, rfl⟩ := H; have ⟨_, _⟩ := nn NB475_476; have ⟨_, _⟩ := nn NB475_477; have ⟨_, _, _, _⟩ := cf2 BK475; have ⟨_, _⟩ := nn NB477_476; have ⟨_, _, _, _⟩ := cf2 BK477; have ⟨_, _, _, _⟩ := cf2 BK476; obtain ⟨Ao26, co26, eo26⟩ := Kd.R_slice HO_478001.out; subst eo26
  go_wp2
  refine bodyPost_ret (results_cell_row rfl _ _ gb476 24 #[.int .i64 a0_0, .slice Ao26 x478001_1.length co26] (0, 0) _ rfl (by (with_reducible repeat (first | refine blk_drewN ?_ _ | refine blk_drew ?_ | refine blk_alloc ?_ _)); refine blk_put (cs := #[.int .i64 a0_0, .slice none 0 0]) ?_ 1 _ rfl; (with_reducible repeat (first | refine blk_drewN ?_ _ | refine blk_drew ?_ | refine blk_alloc ?_ _)); refine blk_put (cs := #[.int .i64 0, .slice none 0 0]) ?_ 0 _ rfl; exact bx BK476.out) Try.underlying24 rfl (by kernel_rfl)) rfl ?_
  exact ⟨_, by first | rfl | (simp [errW_none, errW_some] <;> rfl) | (simp [*, errW_none, errW_some] <;> rfl), by exact rx (Kd.R_mono (Kd.R_far (p := ⟨gb476, 1, none⟩) (Kd.R_far (p := ⟨gb476, 0, none⟩) (Kd.R_types HO_478001.out BK476.out (by decide)) (fun _ hk => hk.2) (.int .i64 a0_0)) (fun _ hk => hk.2) (.slice Ao26 x478001_1.length co26)) (fun _ hk => trivial)), lb⟩
 rw [if_pos c10] at H; have c10b0 := decide_eq_true c10; clear c10; replace H := ifd H; obtain ⟨c11b0, H⟩ := H; replace H := ifn H; obtain ⟨c12, H⟩ := H; have LMc12 := ak c12; clear c12; obtain ⟨y479, hy479⟩ : ∃ y_ : List (S98), y_ = (x478001_1 ++ [(⟨(rd_T98 l0_1 x4_1).f0, (rd_T98 l0_1 x4_1).f1, (rd_T98 l0_1 x4_1).f2, (rd_T98 l0_1 x4_1).f3⟩ : S98)]) := ⟨_, rfl⟩; replace H : (compassref03_Copy.l0 k1 (wrap64 (x4_1 + 1)) a0_0 l0_1 a0_0 y479) = some (r1, r2) := by first | (rw [hy479]; exact H) | exact H
 have Ny479 := ak hy479; clear hy479; have H' := ak H; clear H; have ⟨_, _⟩ := nn NB475_476; have ⟨_, _⟩ := nn NB475_477; have ⟨_, _, _, _⟩ := cf2 BK475
 try go_wp2
 have n_ := a5 (Kd.R_drew HO_478001.out) (blk_drew BK475.out) (blk_drew BK476.out) (blk_drew BK477.out) (below_drew1 HB.out); clear HO_478001 BK475 BK476 BK477 HB; obtain ⟨HO_478001, BK475, BK476, BK477, HB⟩ := n_; obtain ⟨p478, q478, ad478, e478, hx478_0, hx478_1, hx478_2, hx478_3⟩ := wq (at_T98 HR0_1.out x4_1); have hw478_3 := hx478_3; have hw478_2 := hx478_2; have hw478_1 := hx478_1; have hw478_0 := hx478_0; cases e478
 (try replace hx478_0 := hbc HB hx478_0)
 (try replace hx478_1 := hbc HB hx478_1)
 (try replace hx478_2 := hbc HB hx478_2)
 (try replace hx478_3 := hbc HB hx478_3)
 refine stC 11 [10] (cX (bc0 BK477) (cX (bc1 BK477) (cX (bc0 BK475) (cX (bc1 BK475) (cX (hbc HB hw478_0) (cX (hbc HB hw478_1) (cX (hbc HB hw478_2) (cY (hbc HB hw478_3))))))))) compassref03_Copy.tab5 compassref03_Copy.bits5 fun hHeld HT_ HW_ => ?_
 generalize wr.drew = w16 at HO_478001 BK475 BK476 BK477 HB hx478_0 hx478_1 hx478_2 hx478_3 hHeld ⊢
 refine pv HT_ 0 15 ?_; refine pv HT_ 2 17 ?_; refine pv HT_ 4 19 ?_; refine tv HT_ HW_ hHeld 1 16 ?_; refine tv HT_ HW_ hHeld 3 18 ?_; refine pv HT_ 5 20 ?_; refine tv HT_ HW_ hHeld 6 21 ?_
 refine one_ (i := 7) (N := some 22) #[T, T, T, T, T, T, T, T, F, F, F] rfl rfl (one_of HT_.out (by kernel_rfl)) (by decide) (fun K hK => ?_)
 refine value_ (w1 := ?_) (v := ?_) (by rfl) rfl ?_ ?_
 rotate_left 2
 ·
  go_simp
  constructor
  ·
   rfl
  ·
   rfl
 refine hK.out _ _ ⟨(blk_cell (blk_alloc BK477.out _) 0).trans rfl, (blk_cell (blk_alloc BK477.out _) 1).trans rfl, (blk_cell (blk_alloc BK475.out _) 0).trans rfl, (blk_cell (blk_alloc BK475.out _) 1).trans rfl, (World.cell?_alloc_lt _ _ _ (World.block_lt_of_cell? _ _ ((hbc HB hw478_0)))).trans ((hbc HB hw478_0)), (World.cell?_alloc_lt _ _ _ (World.block_lt_of_cell? _ _ ((hbc HB hw478_1)))).trans ((hbc HB hw478_1)), (World.cell?_alloc_lt _ _ _ (World.block_lt_of_cell? _ _ ((hbc HB hw478_2)))).trans ((hbc HB hw478_2)), (World.cell?_alloc_lt _ _ _ (World.block_lt_of_cell? _ _ ((hbc HB hw478_3)))).trans ((hbc HB hw478_3))⟩ (fun hHeld => ?_)
 clear hK K
 refine norm_ (a' := ?_) ?_ ?_
 rotate_left
 ·
  show Act.put _ (some 22) _ = _
  simp only [Act.put, sA, sZ, sS, i64_w, i32_w]
  rfl
 refine one_ (i := 8) (N := some 23) #[T, T, T, T, T, T, T, T, T, F, F] rfl rfl (one_of HT_.out (by kernel_rfl)) (by decide) (fun K hK => ?_)
 refine Kd.R_append_step k98 (w0 := w) w.heap.size (by rfl) (.tmp 16) (.tmp 22) 22 98 (.agg #[(.int .i64 0), (.int .i64 0), (.int .i64 0), (.int .i64 0)]) 32 rfl Try.underlying22 info98 rfl (by decide) (by omega) u478001 x478001_1 (⟨(rd_T98 l0_1 x4_1).f0, (rd_T98 l0_1 x4_1).f1, (rd_T98 l0_1 x4_1).f2, (rd_T98 l0_1 x4_1).f3⟩ : S98) [.int .i64 ((rd_T98 l0_1 x4_1).f0), .int .i64 ((rd_T98 l0_1 x4_1).f1), .int .i64 ((rd_T98 l0_1 x4_1).f2), .int .i64 ((rd_T98 l0_1 x4_1).f3)] (fun _ => True) (fun _ => False) rfl rfl ?aP (fun _ hk => hk.elim) ?aF ?aO ?aB ?aS ?aL ?_
 (case aP => exact k98_mkM _ _ _ (⟨(rd_T98 l0_1 x4_1).f0, (rd_T98 l0_1 x4_1).f1, (rd_T98 l0_1 x4_1).f2, (rd_T98 l0_1 x4_1).f3⟩ : S98))
 (case aB => exact lb)
 (case aF => exact (fun _ _ => trivial))
 (case aO => exact (rx HO_478001.out))
 (case aS => exact (below_size lb))
 (case aL => have := LMc12.out; omega)
 intro v480 w17 ho hb hg hat; rw [← Ny479.out] at ho
 have n_ := a5 (blk_grown (bx BK475.out) hg (Kd.R_ne HO_478001.out BK475.out (by decide))) (blk_grown (bx BK476.out) hg (Kd.R_ne HO_478001.out BK476.out (by decide))) (blk_grown (bx BK477.out) hg (Kd.R_ne HO_478001.out BK477.out (by decide))) hb ho; clear BK475 BK476 BK477 HB HO_478001; obtain ⟨BK475, BK476, BK477, HB, HO481⟩ := n_
 clear ho hb hg hat; obtain ⟨Ao18, co18, eo18⟩ := Kd.R_slice HO481.out
 (first | subst eo18 | (injection eo18 with f1_ f2_ f3_; have f4_ := f1_.symm; have f5_ := f3_.symm; clear f1_ f2_ f3_; subst f4_; subst f5_))
 refine hK.out _ _ ⟨(blk_cell BK477.out 0).trans rfl, (blk_cell BK477.out 1).trans rfl, (blk_cell BK475.out 0).trans rfl, (blk_cell BK475.out 1).trans rfl, (hbc HB hw478_0), (hbc HB hw478_1), (hbc HB hw478_2), (hbc HB hw478_3)⟩ (fun hHeld => ?_)
 clear hK K
 refine norm_ (a' := ?_) ?_ ?_
 rotate_left
 ·
  show Act.put _ (some 23) _ = _
  simp only [Act.put, sA, sZ, sS, i64_w, i32_w]
  rfl
 refine pv HT_ 9 24 ?_
 refine last_ (i := 10) (N := none) #[T, T, T, T, T, T, T, T, T, T, T] rfl rfl (one_of HT_.out (by kernel_rfl)) (by decide) (fun K hK => ?_)
 have hs19 : w17.cell? ⟨gb477, 1, none⟩ = some (u478001) := (blk_cell BK477.out 1).trans rfl; have hfs19 := bf BK477 1; have hns19_0 := NB475_477.out; have hns19_1 := NB476_477.out; have hms19_0 := NB477_475.out; have hms19_1 := NB477_476.out
 refine skip_ (w1 := ?_) (by rfl) rfl ?_ ?_
 rotate_left
 ·
  go_simp
  rfl
 refine hK.out _ _ ?_
 clear hK K
 refine done_ (done_of HT_.out (by kernel_rfl)) ?_
 try go_wp2
 go_roundg k1
 case measure => have := HK1.out; omega
 case rel => exact ⟨(wrap64 (x4_1 + 1)), (y479), (.slice Ao18 y479.length co18), sr, H', ⟨by have := HK1.out; omega⟩, ⟨by exact rx (Kd.R_mono (Kd.R_far (p := ⟨gb477, 1, none⟩) (Kd.R_types HO481.out BK477.out (by decide)) (fun _ hk => hk.2) (.slice Ao18 y479.length co18)) (fun _ hk => trivial))⟩, ⟨by (with_reducible repeat (first | refine blk_drewN ?_ _ | refine blk_drew ?_ | refine blk_alloc ?_ _)); refine blk_far ?_ NB475_477.out _; exact bx BK475.out⟩, ⟨by (with_reducible repeat (first | refine blk_drewN ?_ _ | refine blk_drew ?_ | refine blk_alloc ?_ _)); refine blk_far ?_ NB476_477.out _; exact bx BK476.out⟩, ⟨by (with_reducible repeat (first | refine blk_drewN ?_ _ | refine blk_drew ?_ | refine blk_alloc ?_ _)); refine blk_put (cs := #[.int .i64 a0_0, u478001]) ?_ 1 _ rfl; exact bx BK477.out⟩, ⟨lb⟩⟩
end Go.Proofs.Ytkdoihcjhccliaa.Q
