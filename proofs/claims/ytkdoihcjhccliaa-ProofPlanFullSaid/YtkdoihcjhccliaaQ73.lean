import Derived.Test.YtkdoihcjhccliaaV4
import Derived.Test.YtkdoihcjhccliaaQ0
import Derived.Test.YtkdoihcjhccliaaQ3
namespace Go.Proofs.Ytkdoihcjhccliaa.Q
open Go.RowKit Go.Proofs.YtkdoihcjhccliaaW.PrintWords Go.Proofs.YtkdoihcjhccliaaW.PrintLast Go.Proofs.YtkdoihcjhccliaaW.PrintMore
attribute [local go_sem] max2_int min2_int max_two min_two max_three min_three max_four min_four   -- for this text's walks alone
set_option linter.unusedVariables false
set_option linter.unusedSimpArgs false

/-! ### compassref11_useful: function 71 -/
def compassref11_useful.l0 : Nat → List Int → Int → Int → List (S98) → Int → List (S98) → Option (Int × (List (S98)) × List Int)
  | 0, _, _, _, _, _, _ => none
  | k + 1, x5, x6, x555000, x555001, x557000, x557001 => if x6 < (x555001.length : Int) then (if 0 ≤ x6 then (if ((rd_T98 x555001 x6).f2) > 0 then (if x557001.length < 4398046511104 then (if x5.length < 17592186044416 then (compassref11_useful.l0 k (x5 ++ [x6]) (wrap64 (x6 + 1)) x555000 x555001 x557000 (x557001 ++ [(⟨(rd_T98 x555001 x6).f0, (rd_T98 x555001 x6).f1, (rd_T98 x555001 x6).f2, (rd_T98 x555001 x6).f3⟩ : S98)])) else (none)) else (none)) else (compassref11_useful.l0 k x5 (wrap64 (x6 + 1)) x555000 x555001 x557000 x557001)) else (none)) else (some (x557000, x557001, x5))
def compassref11_useful.f (k : Nat) (a0_0 : Int) (l0_1 : List (S98)) : Option (Int × (List (S98)) × List Int) := compassref11_useful.l0 k ([] : List Int) 0 a0_0 l0_1 a0_0 ([] : List (S98))
def compassref11_useful.T7 : Bool × List (List Nat × List Nat) := (true, [([], []), ([0], [0]), ([], []), ([2], [2]), ([], []), ([3, 4], [3, 4]), ([5], [5]), ([6], [6]), ([1, 7], [1, 7]), ([0, 1, 2, 3, 4, 5, 6, 7, 8], []), ([9, 8, 8, 0, 1, 2, 3, 4, 5, 6, 7, 8], [8, 9])])
def compassref11_useful.B7 : List Nat := [0, 1, 0, 4, 0, 28, 60, 124, 255, 511, 1023]
theorem compassref11_useful.tab7 : rtab .any (opsOf Try.f71 7) = compassref11_useful.T7 := by kernel_rfl
theorem compassref11_useful.bits7 : waitsOk compassref11_useful.T7.2 compassref11_useful.B7 = true := by kernel_rfl
set_option maxHeartbeats 8000000 in
set_option maxRecDepth 100000 in
theorem compassref11_useful.calls (k : Nat) (a0_0 : Int) (A0_1 : Option Addr) (c0_1 : Nat) (l0_1 : List (S98)) (r1 : Int) (r2 : List (S98)) (r3 : List Int) (w : World) (hr0_1 : Kd.C k98 w A0_1 l0_1.length l0_1) (hc0_1 : l0_1.length ≤ c0_1) (h : compassref11_useful.f k a0_0 l0_1 = some (r1, r2, r3)) :
    Calls Try.prog 71 #[.agg #[.int .i64 a0_0, .slice A0_1 l0_1.length c0_1]] w fun e w' => ∃ v1_ v2_ : Value, e = .returned (.tuple #[.agg #[.int .i64 r1, v1_], v2_]) ∧ Kd.R k98 98 w' w.heap.size (fun _ => True) v1_ r2 ∧ Kd.R (Kd.int .i64) 3 w' w.heap.size (fun _ => True) v2_ r3 ∧ Below w.heap.size w w' := by
 have hu24 := Try.underlying24; have hu98 := Try.underlying98; have HR0_1 := ak hr0_1; have HC0_1 := ak hc0_1; clear hr0_1 hc0_1; have HB := ak (Below.refl w.heap.size w); have H : (compassref11_useful.l0 k ([] : List Int) 0 a0_0 l0_1 a0_0 ([] : List (S98))) = some (r1, r2, r3) := h; clear h; have H' := ak H; clear H
 go_enter Try.func71, Try.ntmps71
 go_wp2_with (first | ((with_reducible refine gate_dst (N := 1) rfl ?_); refine bxe 1 #[.int .i64 a0_0, .slice A0_1 l0_1.length c0_1] 24 ?_; intro gb554 hg w2 hbox hb; have n_ := a4 (bl hb) hbox (gw w hg) (gw w hg); clear HB; obtain ⟨HB, BK554, GW554, GE554⟩ := n_; clear hb hbox hg) | ((with_reducible refine gate_dst (N := 2) rfl ?_); refine bxe 2 #[.int .i64 0, .slice none 0 0] 24 ?_; intro gb555 hg w3 hbox hb; have n_ := a7 (bo BK554 hb) (bl hb) hbox (gw w hg) (gw w hg) (nl hg BK554) (nr hg BK554); clear BK554 HB; obtain ⟨BK554, HB, BK555, GW555, GE555, NB554_555, NB555_554⟩ := n_; clear hb hbox hg; have ⟨_, _⟩ := nn NB554_555; have ⟨_, _, _, _⟩ := cf2 BK554) | ((with_reducible refine gate_dst (N := 4) rfl ?_); refine bxe 4 #[.int .i64 0, .slice none 0 0] 24 ?_; intro gb556 hg w6 hbox hb; have n_ := a10 (bo BK554 hb) (bo BK555 hb) (bl hb) hbox (gw w hg) (gw w hg) (nl hg BK554) (nr hg BK554) (nl hg BK555) (nr hg BK555); clear BK554 BK555 HB; obtain ⟨BK554, BK555, HB, BK556, GW556, GE556, NB554_556, NB556_554, NB555_556, NB556_555⟩ := n_; clear hb hbox hg; have ⟨_, _⟩ := nn NB556_554; have ⟨_, _⟩ := nn NB556_555; have ⟨_, _, _, _⟩ := cf2 BK556))
 go_loopg [5, 6] k (fun kq v5 v6 w' => ∃ (x5_1 : List Int) (x6_1 : Int) (x557001_1 : List (S98)) (u557001 : Value), v6 = .int .i64 x6_1 ∧ Aside0 (compassref11_useful.l0 kq x5_1 x6_1 a0_0 l0_1 a0_0 x557001_1 = some (r1, r2, r3)) ∧ Aside0 (kq ≤ k) ∧ Aside0 (Kd.R (Kd.int .i64) 3 w' w.heap.size (fun _ => True) v5 x5_1) ∧ Aside0 (Kd.R k98 98 w' w.heap.size (fun _ => True) u557001 x557001_1) ∧ Aside0 (w'.heap[gb554]? = some (.cells #[.int .i64 a0_0, (.slice A0_1 l0_1.length c0_1)] 24 (0, 0))) ∧ Aside0 (w'.heap[gb555]? = some (.cells #[.int .i64 0, (.slice none 0 0)] 24 (0, 0))) ∧ Aside0 (w'.heap[gb556]? = some (.cells #[.int .i64 a0_0, u557001] 24 (0, 0))) ∧ Aside0 (Below w.heap.size w w'))
 case atStart => exact ⟨(([] : List Int)), (0), (([] : List (S98))), (.slice none 0 0), sr, H', ⟨Nat.le_refl _⟩, ⟨by first | exact Kd.R_nil _ _ _ _ _ | exact Kd.N_nil _ _ _ _ _ | exact Kd.V_nil _ _ _ _ _ | exact Kd.Q_nil _ _ _ _ _ | exact Kd.S_nil _ _ _ _ _⟩, ⟨by first | exact Kd.R_nil _ _ _ _ _ | exact Kd.N_nil _ _ _ _ _ | exact Kd.V_nil _ _ _ _ _ | exact Kd.Q_nil _ _ _ _ _ | exact Kd.S_nil _ _ _ _ _⟩, ⟨by (with_reducible repeat (first | refine blk_drewN ?_ _ | refine blk_drew ?_ | refine blk_alloc ?_ _)); refine blk_far ?_ NB554_556.out _; (with_reducible repeat (first | refine blk_drewN ?_ _ | refine blk_drew ?_ | refine blk_alloc ?_ _)); refine blk_far ?_ NB554_556.out _; exact bx BK554.out⟩, ⟨by (with_reducible repeat (first | refine blk_drewN ?_ _ | refine blk_drew ?_ | refine blk_alloc ?_ _)); refine blk_far ?_ NB555_556.out _; (with_reducible repeat (first | refine blk_drewN ?_ _ | refine blk_drew ?_ | refine blk_alloc ?_ _)); refine blk_far ?_ NB555_556.out _; exact bx BK555.out⟩, ⟨by (with_reducible repeat (first | refine blk_drewN ?_ _ | refine blk_drew ?_ | refine blk_alloc ?_ _)); refine blk_put (cs := #[.int .i64 a0_0, .slice none 0 0]) ?_ 1 _ rfl; (with_reducible repeat (first | refine blk_drewN ?_ _ | refine blk_drew ?_ | refine blk_alloc ?_ _)); refine blk_put (cs := #[.int .i64 0, .slice none 0 0]) ?_ 0 _ rfl; exact bx BK556.out⟩, ⟨lb⟩⟩
 clear H'; obtain ⟨x5_1, x6_1, x557001_1, u557001, rfl, HA, HK1, HO_5, HO_557001, BK554, BK555, BK556, HB⟩ := hrel
 cases gk with
 | zero => exact absurd HA.out (by simp [compassref11_useful.l0])
 | succ k1 => ?_
 have H := HA.out; clear HA
 simp only [compassref11_useful.l0] at H
 by_cases c10 : x6_1 < (l0_1.length : Int)
 rotate_left
 ·
  rw [if_neg c10] at H; have c10b0 := decide_eq_false c10; clear c10
  simp only [Option.some.injEq, Prod.mk.injEq] at H
  obtain ⟨rfl, rfl, rfl⟩ := H; have ⟨_, _⟩ := nn NB554_555; have ⟨_, _⟩ := nn NB554_556; have ⟨_, _, _, _⟩ := cf2 BK554; have ⟨_, _⟩ := nn NB556_555; have ⟨_, _, _, _⟩ := cf2 BK556; have ⟨_, _, _, _⟩ := cf2 BK555; obtain ⟨Ao32, co32, eo32⟩ := Kd.R_slice HO_557001.out; subst eo32
  go_wp2
  refine bodyPost_ret (results_ct rfl _ _ gb555 24 #[.int .i64 a0_0, .slice Ao32 x557001_1.length co32] (0, 0) _ rfl (by (with_reducible repeat (first | refine blk_drewN ?_ _ | refine blk_drew ?_ | refine blk_alloc ?_ _)); refine blk_put (cs := #[.int .i64 a0_0, .slice none 0 0]) ?_ 1 _ rfl; (with_reducible repeat (first | refine blk_drewN ?_ _ | refine blk_drew ?_ | refine blk_alloc ?_ _)); refine blk_put (cs := #[.int .i64 0, .slice none 0 0]) ?_ 0 _ rfl; exact bx BK555.out) Try.underlying24 rfl (by kernel_rfl)) rfl ?_
  exact ⟨_, _, by first | rfl | (simp [errW_none, errW_some] <;> rfl) | (simp [*, errW_none, errW_some] <;> rfl), by exact rx (Kd.R_mono (Kd.R_far (p := ⟨gb555, 1, none⟩) (Kd.R_far (p := ⟨gb555, 0, none⟩) (Kd.R_types HO_557001.out BK555.out (by decide)) (fun _ hk => hk.2) (.int .i64 a0_0)) (fun _ hk => hk.2) (.slice Ao32 x557001_1.length co32)) (fun _ hk => trivial)), by exact rx (Kd.R_mono (Kd.R_far (p := ⟨gb555, 1, none⟩) (Kd.R_far (p := ⟨gb555, 0, none⟩) (Kd.R_types HO_5.out BK555.out (by decide)) (fun _ hk => hk.2) (.int .i64 a0_0)) (fun _ hk => hk.2) (.slice Ao32 x557001_1.length co32)) (fun _ hk => trivial)), lb⟩
 rw [if_pos c10] at H; have c10b0 := decide_eq_true c10; clear c10; replace H := ifd H; obtain ⟨c11b0, H⟩ := H
 by_cases c12 : ((rd_T98 l0_1 x6_1).f2) > 0
 rotate_left
 ·
  rw [if_neg c12] at H; have c12b0 := decide_eq_false c12; clear c12; have H' := ak H; clear H; have ⟨_, _⟩ := nn NB554_555; have ⟨_, _⟩ := nn NB554_556; have ⟨_, _, _, _⟩ := cf2 BK554; obtain ⟨p557, q557, ad557, e557, hx557_0, hx557_1, hx557_2, hx557_3⟩ := wq (at_T98 HR0_1.out x6_1); cases e557
  (try replace hx557_0 := hbc HB hx557_0)
  (try replace hx557_1 := hbc HB hx557_1)
  (try replace hx557_2 := hbc HB hx557_2)
  (try replace hx557_3 := hbc HB hx557_3)
  go_wp2
  go_roundg k1
  case measure => have := HK1.out; omega
  case rel => exact ⟨(x5_1), (wrap64 (x6_1 + 1)), (x557001_1), (u557001), sr, H', ⟨by have := HK1.out; omega⟩, ⟨rx HO_5.out⟩, ⟨rx HO_557001.out⟩, xb BK554, xb BK555, xb BK556, ⟨lb⟩⟩
 rw [if_pos c12] at H; have c12b0 := decide_eq_true c12; clear c12; replace H := ifn H; obtain ⟨c13, H⟩ := H; have LMc13 := ak c13; clear c13; obtain ⟨y559, hy559⟩ : ∃ y_ : List (S98), y_ = (x557001_1 ++ [(⟨(rd_T98 l0_1 x6_1).f0, (rd_T98 l0_1 x6_1).f1, (rd_T98 l0_1 x6_1).f2, (rd_T98 l0_1 x6_1).f3⟩ : S98)]) := ⟨_, rfl⟩; replace H : (if x5_1.length < 17592186044416 then (compassref11_useful.l0 k1 (x5_1 ++ [x6_1]) (wrap64 (x6_1 + 1)) a0_0 l0_1 a0_0 y559) else (none)) = some (r1, r2, r3) := by first | (rw [hy559]; exact H) | exact H
 have Ny559 := ak hy559; clear hy559; replace H := ifn H; obtain ⟨c14, H⟩ := H; have LMc14 := ak c14; clear c14; obtain ⟨y562, hy562⟩ : ∃ y_ : List Int, y_ = (x5_1 ++ [x6_1]) := ⟨_, rfl⟩; replace H : (compassref11_useful.l0 k1 y562 (wrap64 (x6_1 + 1)) a0_0 l0_1 a0_0 y559) = some (r1, r2, r3) := by first | (rw [hy562]; exact H) | exact H
 have Ny562 := ak hy562; clear hy562; have H' := ak H; clear H; have ⟨_, _⟩ := nn NB554_555; have ⟨_, _⟩ := nn NB554_556; have ⟨_, _, _, _⟩ := cf2 BK554; obtain ⟨p557, q557, ad557, e557, hx557_0, hx557_1, hx557_2, hx557_3⟩ := wq (at_T98 HR0_1.out x6_1); cases e557
 (try replace hx557_0 := hbc HB hx557_0)
 (try replace hx557_1 := hbc HB hx557_1)
 (try replace hx557_2 := hbc HB hx557_2)
 (try replace hx557_3 := hbc HB hx557_3)
 try go_wp2
 have n_ := a6 (Kd.R_drew HO_5.out) (Kd.R_drew HO_557001.out) (blk_drew BK554.out) (blk_drew BK555.out) (blk_drew BK556.out) (below_drew1 HB.out); clear HO_5 HO_557001 BK554 BK555 BK556 HB; obtain ⟨HO_5, HO_557001, BK554, BK555, BK556, HB⟩ := n_; obtain ⟨p558, q558, ad558, e558, hx558_0, hx558_1, hx558_2, hx558_3⟩ := wq (at_T98 HR0_1.out x6_1); have hw558_3 := hx558_3; have hw558_2 := hx558_2; have hw558_1 := hx558_1; have hw558_0 := hx558_0
 obtain rfl : ad557 = ad558 := (by injection e558)
 (try replace hx558_0 := hbc HB hx558_0)
 (try replace hx558_1 := hbc HB hx558_1)
 (try replace hx558_2 := hbc HB hx558_2)
 (try replace hx558_3 := hbc HB hx558_3)
 refine stC 11 [10] (cX (bc0 BK556) (cX (bc1 BK556) (cX (bc0 BK554) (cX (bc1 BK554) (cX (hbc HB hw558_0) (cX (hbc HB hw558_1) (cX (hbc HB hw558_2) (cY (hbc HB hw558_3))))))))) compassref11_useful.tab7 compassref11_useful.bits7 fun hHeld HT_ HW_ => ?_
 generalize wr.drew = w18 at HO_5 HO_557001 BK554 BK555 BK556 HB hx558_0 hx558_1 hx558_2 hx558_3 hHeld ⊢
 refine pv HT_ 0 24 ?_; refine pv HT_ 2 26 ?_; refine pv HT_ 4 28 ?_; refine tv HT_ HW_ hHeld 1 25 ?_; refine tv HT_ HW_ hHeld 3 27 ?_; refine pv HT_ 5 29 ?_; refine tv HT_ HW_ hHeld 6 30 ?_
 refine one_ (i := 7) (N := some 31) #[T, T, T, T, T, T, T, T, F, F, F] rfl rfl (one_of HT_.out (by kernel_rfl)) (by decide) (fun K hK => ?_)
 refine value_ (w1 := ?_) (v := ?_) (by rfl) rfl ?_ ?_
 rotate_left 2
 ·
  go_simp
  constructor
  ·
   rfl
  ·
   rfl
 refine hK.out _ _ ⟨(blk_cell (blk_alloc BK556.out _) 0).trans rfl, (blk_cell (blk_alloc BK556.out _) 1).trans rfl, (blk_cell (blk_alloc BK554.out _) 0).trans rfl, (blk_cell (blk_alloc BK554.out _) 1).trans rfl, (World.cell?_alloc_lt _ _ _ (World.block_lt_of_cell? _ _ ((hbc HB hw558_0)))).trans ((hbc HB hw558_0)), (World.cell?_alloc_lt _ _ _ (World.block_lt_of_cell? _ _ ((hbc HB hw558_1)))).trans ((hbc HB hw558_1)), (World.cell?_alloc_lt _ _ _ (World.block_lt_of_cell? _ _ ((hbc HB hw558_2)))).trans ((hbc HB hw558_2)), (World.cell?_alloc_lt _ _ _ (World.block_lt_of_cell? _ _ ((hbc HB hw558_3)))).trans ((hbc HB hw558_3))⟩ (fun hHeld => ?_)
 clear hK K
 refine norm_ (a' := ?_) ?_ ?_
 rotate_left
 ·
  show Act.put _ (some 31) _ = _
  simp only [Act.put, sA, sZ, sS, i64_w, i32_w]
  rfl
 refine one_ (i := 8) (N := some 32) #[T, T, T, T, T, T, T, T, T, F, F] rfl rfl (one_of HT_.out (by kernel_rfl)) (by decide) (fun K hK => ?_)
 refine Kd.R_append_step k98 (w0 := w) w.heap.size (by rfl) (.tmp 25) (.tmp 31) 22 98 (.agg #[(.int .i64 0), (.int .i64 0), (.int .i64 0), (.int .i64 0)]) 32 rfl Try.underlying22 info98 rfl (by decide) (by omega) u557001 x557001_1 (⟨(rd_T98 l0_1 x6_1).f0, (rd_T98 l0_1 x6_1).f1, (rd_T98 l0_1 x6_1).f2, (rd_T98 l0_1 x6_1).f3⟩ : S98) [.int .i64 ((rd_T98 l0_1 x6_1).f0), .int .i64 ((rd_T98 l0_1 x6_1).f1), .int .i64 ((rd_T98 l0_1 x6_1).f2), .int .i64 ((rd_T98 l0_1 x6_1).f3)] (fun _ => True) (fun _ => False) rfl rfl ?aP (fun _ hk => hk.elim) ?aF ?aO ?aB ?aS ?aL ?_
 (case aP => exact k98_mkM _ _ _ (⟨(rd_T98 l0_1 x6_1).f0, (rd_T98 l0_1 x6_1).f1, (rd_T98 l0_1 x6_1).f2, (rd_T98 l0_1 x6_1).f3⟩ : S98))
 (case aB => exact lb)
 (case aF => exact (fun _ _ => trivial))
 (case aO => exact (rx HO_557001.out))
 (case aS => exact (below_size lb))
 (case aL => have := LMc13.out; omega)
 intro v560 w19 ho hb hg hat; rw [← Ny559.out] at ho
 have n_ := a6 (Kd.R_over' (rx HO_5.out) (Kd.R_typed (rx HO_557001.out)) (by decide) hg) (blk_grown (bx BK554.out) hg (Kd.R_ne HO_557001.out BK554.out (by decide))) (blk_grown (bx BK555.out) hg (Kd.R_ne HO_557001.out BK555.out (by decide))) (blk_grown (bx BK556.out) hg (Kd.R_ne HO_557001.out BK556.out (by decide))) hb ho; clear HO_5 BK554 BK555 BK556 HB HO_557001; obtain ⟨HO_5, BK554, BK555, BK556, HB, HO561⟩ := n_
 clear ho hb hg hat; obtain ⟨Ao20, co20, eo20⟩ := Kd.R_slice HO561.out
 (first | subst eo20 | (injection eo20 with f1_ f2_ f3_; have f4_ := f1_.symm; have f5_ := f3_.symm; clear f1_ f2_ f3_; subst f4_; subst f5_))
 refine hK.out _ _ ⟨(blk_cell BK556.out 0).trans rfl, (blk_cell BK556.out 1).trans rfl, (blk_cell BK554.out 0).trans rfl, (blk_cell BK554.out 1).trans rfl, (hbc HB hw558_0), (hbc HB hw558_1), (hbc HB hw558_2), (hbc HB hw558_3)⟩ (fun hHeld => ?_)
 clear hK K
 refine norm_ (a' := ?_) ?_ ?_
 rotate_left
 ·
  show Act.put _ (some 32) _ = _
  simp only [Act.put, sA, sZ, sS, i64_w, i32_w]
  rfl
 refine pv HT_ 9 33 ?_
 refine last_ (i := 10) (N := none) #[T, T, T, T, T, T, T, T, T, T, T] rfl rfl (one_of HT_.out (by kernel_rfl)) (by decide) (fun K hK => ?_)
 have hs21 : w19.cell? ⟨gb556, 1, none⟩ = some (u557001) := (blk_cell BK556.out 1).trans rfl; have hfs21 := bf BK556 1; have hns21_0 := NB554_556.out; have hns21_1 := NB555_556.out; have hms21_0 := NB556_554.out; have hms21_1 := NB556_555.out
 refine skip_ (w1 := ?_) (by rfl) rfl ?_ ?_
 rotate_left
 ·
  go_simp
  rfl
 refine hK.out _ _ ?_
 clear hK K
 refine done_ (done_of HT_.out (by kernel_rfl)) ?_
 try go_wp2_with (first | ((with_reducible refine gate_builtin (b := .append) (xs := #[.tmp 34, .tmp 36]) rfl ?_); at_builtin; refine Kd.R_append (Kd.int .i64) (w0 := w) w.heap.size rfl (.tmp 34) (.tmp 36) 70 3 (.int .i64 0) 8 rfl Try.underlying70 info3 rfl (by decide) (by omega) u5 x5_1 x6_1 [.int .i64 x6_1] (fun _ => True) (fun _ => False) rfl (by first | (go_simp; done) | (go_simp; rfl)) ?aP (fun _ hk => hk.elim) ?aF ?aO ?aB ?aS ?aL ?_; (case aP => exact rfl); (case aB => exact lb); (case aF => exact (fun _ _ => trivial)); (case aO => exact (by exact rx (Kd.R_mono (Kd.R_far (p := ⟨gb556, 1, none⟩) (Kd.R_types HO_5.out BK556.out (by decide)) (fun _ hk => hk.2) (.slice Ao20 y559.length co20)) (fun _ hk => trivial)))); (case aS => exact (below_size lb)); (case aL => have := LMc14.out; omega); intro v563 w22 ho hb hg hat; rw [← Ny562.out] at ho; have n_ := a6 (blk_grown (g := gb554) (o := .cells #[.int .i64 a0_0, .slice (some ad557) l0_1.length c0_1] 24 (0, 0)) (by (with_reducible repeat (first | refine blk_drewN ?_ _ | refine blk_drew ?_ | refine blk_alloc ?_ _)); refine blk_far ?_ NB554_556.out _; exact bx BK554.out) hg (Kd.R_ne HO_5.out BK554.out (by decide))) (blk_grown (g := gb555) (o := .cells #[.int .i64 0, .slice none 0 0] 24 (0, 0)) (by (with_reducible repeat (first | refine blk_drewN ?_ _ | refine blk_drew ?_ | refine blk_alloc ?_ _)); refine blk_far ?_ NB555_556.out _; exact bx BK555.out) hg (Kd.R_ne HO_5.out BK555.out (by decide))) (blk_grown (g := gb556) (o := .cells #[.int .i64 a0_0, .slice Ao20 y559.length co20] 24 (0, 0)) (by (with_reducible repeat (first | refine blk_drewN ?_ _ | refine blk_drew ?_ | refine blk_alloc ?_ _)); refine blk_put (cs := #[.int .i64 a0_0, u557001]) ?_ 1 _ rfl; exact bx BK556.out) hg (Kd.R_ne HO_5.out BK556.out (by decide))) (Kd.R_over' (by (with_reducible repeat (first | apply Kd.R_alloc | apply Kd.R_drewN | apply Kd.R_drew)); exact (Kd.R_mono (Kd.R_far (p := ⟨gb556, 1, none⟩) (Kd.R_types HO561.out BK556.out (by decide)) (fun _ hk => hk.2) (.slice Ao20 y559.length co20)) (fun _ h_ => h_.1))) (Kd.R_typed (by (with_reducible repeat (first | apply Kd.R_alloc | apply Kd.R_drewN | apply Kd.R_drew)); exact (Kd.R_mono (Kd.R_far (p := ⟨gb556, 1, none⟩) (Kd.R_types HO_5.out BK556.out (by decide)) (fun _ hk => hk.2) (.slice Ao20 y559.length co20)) (fun _ h_ => h_.1)))) (by decide) hg) hb ho; clear BK554 BK555 BK556 HO561 HB HO_5; obtain ⟨BK554, BK555, BK556, HO561, HB, HO564⟩ := n_; clear ho hb hg hat))
 go_roundg k1
 case measure => have := HK1.out; omega
 case rel => exact ⟨(y562), (wrap64 (x6_1 + 1)), (y559), (.slice Ao20 y559.length co20), sr, H', ⟨by have := HK1.out; omega⟩, ⟨rx HO564.out⟩, ⟨rx HO561.out⟩, xb BK554, xb BK555, xb BK556, ⟨lb⟩⟩
end Go.Proofs.Ytkdoihcjhccliaa.Q
