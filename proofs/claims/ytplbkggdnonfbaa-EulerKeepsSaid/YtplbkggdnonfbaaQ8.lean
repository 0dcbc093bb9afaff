import Derived.Test.YtplbkggdnonfbaaQ0
import Derived.Test.YtplbkggdnonfbaaQ6
import Derived.Test.YtplbkggdnonfbaaQ7
namespace Go.Proofs.Ytplbkggdnonfbaa.Q
open Go.RowKit Go.Proofs.YtplbkggdnonfbaaW.PrintWords Go.Proofs.YtplbkggdnonfbaaW.PrintLast Go.Proofs.YtplbkggdnonfbaaW.PrintMore
attribute [local go_sem] max2_int min2_int max_two min_two max_three min_three max_four min_four   -- for this text's walks alone
set_option linter.unusedVariables false
set_option linter.unusedSimpArgs false

/-! ### euler_apart: function 22 -/
mutual
def euler_apart.l0 : Nat → List Int → List Bool → List (S45) → Int → Int → Option (Int × Int × Bool)
  | 0, _, _, _, _, _ => none
  | k + 1, x5, x7, x20, x21, x22 => if x22 < x21 then (if 0 ≤ x22 then (if x22 < (x20.length : Int) then (if 0 ≤ ((rd_T45 x20 x22).f0) then (if ((rd_T45 x20 x22).f0) < (x7.length : Int) then (if 0 ≤ ((rd_T45 x20 x22).f1) then (if ((rd_T45 x20 x22).f1) < (x7.length : Int) then (euler_apart.l0 k x5 ((x7.set (((rd_T45 x20 x22).f0) : Int).toNat true).set (((rd_T45 x20 x22).f1) : Int).toNat true) x20 x21 (wrap64 (x22 + 1))) else (none)) else (none)) else (none)) else (none)) else (none)) else (none)) else ((slices_Index_bool_bool.f k x7 true).bind fun t175 => (euler_apart.l1 k t175 x5 x7 (x7.length : Int) 0))
def euler_apart.l1 : Nat → Int → List Int → List Bool → Int → Int → Option (Int × Int × Bool)
  | 0, _, _, _, _, _ => none
  | k + 1, x2, x5, x7, x38, x39 => if x39 < x38 then (if 0 ≤ x39 then (if x39 < (x7.length : Int) then (if rdOf false x7 x39 = true then (if x39 < (x5.length : Int) then (if 0 ≤ x2 then (if x2 < (x5.length : Int) then (if (rd x5 x39) = (rd x5 x2) then (euler_apart.l1 k x2 x5 x7 x38 (wrap64 (x39 + 1))) else (some (x2, x39, true))) else (none)) else (none)) else (none)) else (euler_apart.l1 k x2 x5 x7 x38 (wrap64 (x39 + 1)))) else (none)) else (none)) else (some (mx x2 0, 0, false))
end
def euler_apart.f (k : Nat) (a0_0 : Int) (l0_1 : List (S45)) : Option (Int × Int × Bool) := (walk_Parts.f k a0_0 l0_1).bind fun bt164 => (if 0 ≤ a0_0 then (if (a0_0 : Int).toNat ≤ 281474976710656 then (euler_apart.l0 k bt164.1 (List.replicate (a0_0 : Int).toNat false) l0_1 (l0_1.length : Int) 0) else (none)) else (none))
theorem euler_apart.mono_l : ∀ k, (∀ y0 y1 y2 y3 y4, LeO (euler_apart.l0 k y0 y1 y2 y3 y4) (euler_apart.l0 (k + 1) y0 y1 y2 y3 y4)) ∧ (∀ y0 y1 y2 y3 y4, LeO (euler_apart.l1 k y0 y1 y2 y3 y4) (euler_apart.l1 (k + 1) y0 y1 y2 y3 y4))
  | 0 => ⟨fun _ _ _ _ _ r h => by simp [euler_apart.l0] at h, fun _ _ _ _ _ r h => by simp [euler_apart.l1] at h⟩
  | k + 1 => by
    obtain ⟨ih0, ih1⟩ := euler_apart.mono_l k
    refine ⟨?_, ?_⟩
    · intro y0 y1 y2 y3 y4
      unfold euler_apart.l0
      repeat' first
      | (with_reducible exact ih0 _ _ _ _ _)
      | (with_reducible exact ih1 _ _ _ _ _)
      | (with_reducible exact slices_Index_bool_bool.mono _ _ _)
      | (with_reducible exact walk_Parts.mono _ _ _)
      | (with_reducible exact LeO.refl _)
      | (with_reducible exact LeO.none _)
      | (with_reducible refine LeO.ite ?_ ?_)
      | (with_reducible refine LeO.bind ?_ (fun _ => ?_))
      | exact ih0 _ _ _ _ _
      | exact ih1 _ _ _ _ _
      | exact slices_Index_bool_bool.mono _ _ _
      | exact walk_Parts.mono _ _ _
      | exact LeO.none _
      | refine LeO.ite ?_ ?_
      | refine LeO.bind ?_ (fun _ => ?_)
    · intro y0 y1 y2 y3 y4
      unfold euler_apart.l1
      repeat' first
      | (with_reducible exact ih0 _ _ _ _ _)
      | (with_reducible exact ih1 _ _ _ _ _)
      | (with_reducible exact slices_Index_bool_bool.mono _ _ _)
      | (with_reducible exact walk_Parts.mono _ _ _)
      | (with_reducible exact LeO.refl _)
      | (with_reducible exact LeO.none _)
      | (with_reducible refine LeO.ite ?_ ?_)
      | (with_reducible refine LeO.bind ?_ (fun _ => ?_))
      | exact ih0 _ _ _ _ _
      | exact ih1 _ _ _ _ _
      | exact slices_Index_bool_bool.mono _ _ _
      | exact walk_Parts.mono _ _ _
      | exact LeO.none _
      | refine LeO.ite ?_ ?_
      | refine LeO.bind ?_ (fun _ => ?_)
theorem euler_apart.mono : ∀ a0 a1 k, LeO (euler_apart.f k a0 a1) (euler_apart.f (k + 1) a0 a1) := by
  intro a0 a1 k
  obtain ⟨ih0, ih1⟩ := euler_apart.mono_l k
  unfold euler_apart.f
  repeat' first
      | (with_reducible exact ih0 _ _ _ _ _)
      | (with_reducible exact ih1 _ _ _ _ _)
      | (with_reducible exact slices_Index_bool_bool.mono _ _ _)
      | (with_reducible exact walk_Parts.mono _ _ _)
      | (with_reducible exact LeO.refl _)
      | (with_reducible exact LeO.none _)
      | (with_reducible refine LeO.ite ?_ ?_)
      | (with_reducible refine LeO.bind ?_ (fun _ => ?_))
      | exact ih0 _ _ _ _ _
      | exact ih1 _ _ _ _ _
      | exact slices_Index_bool_bool.mono _ _ _
      | exact walk_Parts.mono _ _ _
      | exact LeO.none _
      | refine LeO.ite ?_ ?_
      | refine LeO.bind ?_ (fun _ => ?_)
def euler_apart.T6 : Bool × List (List Nat × List Nat) := (true, [([], []), ([], []), ([1], [1]), ([], []), ([], []), ([4], [4]), ([0, 2, 0, 1, 2], [0, 2]), ([6, 0, 1, 2], [6]), ([3, 5, 0, 1, 2, 3, 4, 5, 6, 7], [3, 5]), ([8, 7, 0, 1, 2, 3, 4, 5, 6, 7], [8])])
def euler_apart.B6 : List Nat := [0, 0, 2, 0, 0, 16, 7, 71, 255, 511]
theorem euler_apart.tab6 : rtab .any (opsOf Try.f22 6) = euler_apart.T6 := by kernel_rfl
theorem euler_apart.bits6 : waitsOk euler_apart.T6.2 euler_apart.B6 = true := by kernel_rfl
def euler_apart.T12 : Bool × List (List Nat × List Nat) := (true, [([], []), ([], []), ([0, 1], [0, 1]), ([2], [2]), ([3], [3]), ([4], [4]), ([4], [4]), ([5, 6, 4], [4, 5, 6]), ([7, 4], [4, 7]), ([4], [4]), ([4], [4]), ([9, 10, 4], [4, 9, 10]), ([11, 4], [4, 11]), ([8, 12, 4], [4, 8, 12]), ([4, 13], [4, 13])])
def euler_apart.B12 : List Nat := [0, 0, 3, 7, 15, 31, 31, 127, 255, 31, 31, 1567, 3615, 8191, 16383]
theorem euler_apart.tab12 : rtab .any (opsOf Try.f22 12) = euler_apart.T12 := by kernel_rfl
theorem euler_apart.bits12 : waitsOk euler_apart.T12.2 euler_apart.B12 = true := by kernel_rfl
set_option maxHeartbeats 8000000 in
set_option maxRecDepth 100000 in
theorem euler_apart.calls (k : Nat) (a0_0 : Int) (A0_1 : Option Addr) (c0_1 : Nat) (l0_1 : List (S45)) (r1 : Int) (r2 : Int) (r3 : Bool) (w : World) (hr0_1 : Kd.C k45 w A0_1 l0_1.length l0_1) (hc0_1 : l0_1.length ≤ c0_1) (h : euler_apart.f k a0_0 l0_1 = some (r1, r2, r3)) :
    Calls Try.prog 22 #[.agg #[.int .i64 a0_0, .slice A0_1 l0_1.length c0_1]] w fun e w' => e = .returned (.tuple #[.int .i64 r1, .int .i64 r2, .bool r3]) ∧ Below w.heap.size w w' := by
 have hu24 := Try.underlying24; have hu45 := Try.underlying45; have HR0_1 := ak hr0_1; have HC0_1 := ak hc0_1; clear hr0_1 hc0_1; have HB := ak (Below.refl w.heap.size w); have H : ((walk_Parts.f k a0_0 l0_1).bind fun bt164 => (if 0 ≤ a0_0 then (if (a0_0 : Int).toNat ≤ 281474976710656 then (euler_apart.l0 k bt164.1 (List.replicate (a0_0 : Int).toNat false) l0_1 (l0_1.length : Int) 0) else (none)) else (none))) = some (r1, r2, r3) := h; clear h; replace H := Option.bind_eq_some_iff.mp H; obtain ⟨⟨t164, t167⟩, A20, H⟩ := H; replace H : (if 0 ≤ a0_0 then (if (a0_0 : Int).toNat ≤ 281474976710656 then (euler_apart.l0 k t164 (List.replicate (a0_0 : Int).toNat false) l0_1 (l0_1.length : Int) 0) else (none)) else (none)) = some (r1, r2, r3) := H; have A2 := ak A20; clear A20; replace H := ife H; obtain ⟨c3b0, c3b1, H⟩ := H; replace H := ife H; obtain ⟨c4b0, c4b1, H⟩ := H; obtain ⟨y168, hy168⟩ : ∃ y_ : List Bool, y_ = (List.replicate (a0_0 : Int).toNat false) := ⟨_, rfl⟩; rw [← hy168] at H; have Ny168 := ak hy168; clear hy168; have H' := ak H; clear H
 go_enter Try.func22, Try.ntmps22
 go_wp2_with (first | ((with_reducible refine gate_dst (N := 1) rfl ?_); refine box_event ?hg (N := 1) ?hd (cs := #[.int .i64 a0_0, .slice A0_1 l0_1.length c0_1]) (t := 24) ?hr ?_; (case hd => rfl); (case hg => rfl); (case hr => first | (go_simp; done) | (go_simp; rfl)); intro gb163 hg w5 hbox hb; have n_ := a4 (below_step lb hb) hbox (gw w hg) (gw w hg); clear HB; obtain ⟨HB, BK163, GW163, GE163⟩ := n_; clear hb hbox hg; have hcz6_0 := bc0 BK163; have hcz6_1 := bc1 BK163; have hfz6_0 := bf BK163 0; have hfz6_1 := bf BK163 1) | ((with_reducible refine gate_callee (f := 31) rfl ?_); refine goesZ (some 13) rfl rfl Try.func31 (by kernel_rfl) rfl #[.agg #[.int .i64 a0_0, .slice A0_1 l0_1.length c0_1]] rfl ?_; (with_reducible refine (walk_Parts.calls k a0_0 _ _ l0_1 t164 t167 _ ?side1 ?side2 A2.out).mono ?_); (case side1 => exact Kd.C_below HR0_1.out lb); (case side2 => exact HC0_1.out); rintro e w7 ⟨v165, rfl, ho0, hb⟩; refine ⟨_, rfl, ?_⟩; have n_ := a3 (Kd.R_lower ho0 (below_size lb)) (blk_below (bx BK163.out) hb) (below_step lb hb); clear BK163 HB; obtain ⟨HO166, BK163, HB⟩ := n_; (try clear hb); (try clear hb2); (try clear hk); (try clear hi); (try clear ho0); have hcz8_0 := bc0 BK163; have hcz8_1 := bc1 BK163; have hfz8_0 := bf BK163 0; have hfz8_1 := bf BK163 1) | ((with_reducible refine gate_dst (N := 18) rfl ?_); refine Kd.R_make Kd.bool _ 4 rfl (N := 18) rfl 67 _ _ rfl a0_0 rfl rfl Try.underlying67 (.bool false) 1 info4 rfl (by decide) (by omega) false (ok := fun _ => True) (okp := fun _ => True) rfl (fun _ hk => hk) trivial (oda) (Nat.le_trans (Nat.mul_le_mul_right _ (oda : a0_0.toNat ≤ 281474976710656)) (by omega)) (Below.refl _ _) (Nat.le_refl _) ?_; intro v169 w9 ho10 hb hg_ hnew_; clear hg_ hnew_; (first | rw [← Ny168.out] at ho10 | (simp only [Int.reduceToNat] at ho10; rw [← Ny168.out] at ho10)); have n_ := a4 (Kd.R_below (rx HO166.out) hb) (Kd.R_lower ho10 (below_size lb)) (blk_below (bx BK163.out) hb) (below_step lb hb); clear HO166 BK163 HB; obtain ⟨HO166, HO170, BK163, HB⟩ := n_; clear hb ho10; have hcz11_0 := bc0 BK163; have hcz11_1 := bc1 BK163; have hfz11_0 := bf BK163 0; have hfz11_1 := bf BK163 1))
 go_loopg [22] k (fun kq v22 w' => ∃ (x7_1 : List Bool) (x22_1 : Int), v22 = .int .i64 x22_1 ∧ Aside0 (euler_apart.l0 kq t164 x7_1 l0_1 (l0_1.length : Int) x22_1 = some (r1, r2, r3)) ∧ Aside0 (kq ≤ k) ∧ Aside0 (Kd.R (Kd.int .i64) 3 w' w.heap.size (fun _ => True) v165 t164) ∧ Aside0 (Kd.R Kd.bool 4 w' w.heap.size (fun _ => True) v169 x7_1) ∧ Aside0 (w'.heap[gb163]? = some (.cells #[.int .i64 a0_0, (.slice A0_1 l0_1.length c0_1)] 24 (0, 0))) ∧ Aside0 (Below w.heap.size w w'))
 case atStart => exact ⟨(y168), (0), (by first | rfl | (simp [*]; done)), H', ⟨Nat.le_refl _⟩, ⟨rx HO166.out⟩, ⟨rx HO170.out⟩, ⟨bx BK163.out⟩, ⟨lb⟩⟩
 case round =>
  clear H'; obtain ⟨x7_1, x22_1, rfl, HA, HK1, HO_5, HO_7, BK163, HB⟩ := hrel
  cases gk with
  | zero => exact absurd HA.out (by simp [euler_apart.l0])
  | succ k1 =>
   have H := HA.out; clear HA
   simp only [euler_apart.l0] at H
   by_cases c12 : x22_1 < (l0_1.length : Int)
   ·
    rw [if_pos c12] at H; have c12b0 := decide_eq_true c12; clear c12; replace H := ifd H; obtain ⟨c13b0, H⟩ := H; replace H := ifd H; obtain ⟨c14b0, H⟩ := H; replace H := ifd H; obtain ⟨c15b0, H⟩ := H; replace H := ifd H; obtain ⟨c16b0, H⟩ := H; obtain ⟨y173, hy173⟩ : ∃ y_ : List Bool, y_ = (x7_1.set (((rd_T45 l0_1 x22_1).f0) : Int).toNat true) := ⟨_, rfl⟩; rw [← hy173] at H; have Ny173 := ak hy173; clear hy173; replace H := ifd H; obtain ⟨c18b0, H⟩ := H; replace H := ifd H; obtain ⟨c19b0, H⟩ := H; obtain ⟨y174, hy174⟩ : ∃ y_ : List Bool, y_ = (y173.set (((rd_T45 l0_1 x22_1).f1) : Int).toNat true) := ⟨_, rfl⟩; rw [← hy174] at H; have Ny174 := ak hy174; clear hy174; have H' := ak H; clear H; have p171 : 0 ≤ (x22_1 : Int) := oda; have q171 : x22_1 < (l0_1.length : Int) := oda; obtain ⟨ad171, e171, hx171_0, hx171_1, hx171_2, hx171_3⟩ := at_T45 HR0_1.out x22_1 p171 q171; cases e171
    (try replace hx171_0 := hbc HB hx171_0)
    (try replace hx171_1 := hbc HB hx171_1)
    (try replace hx171_2 := hbc HB hx171_2)
    (try replace hx171_3 := hbc HB hx171_3)
    replace p171 := eq_true p171; replace q171 := eq_true q171
    try go_wp2_with (first | ((with_reducible refine gate_dst (N := 9) rfl ?_); refine box_event ?hg (N := 9) ?hd (cs := #[.int .i64 0, .int .i64 0, .int .i64 0, .int .i64 0]) (t := 45) ?hr ?_; (case hd => rfl); (case hg => rfl); (case hr => first | (go_simp; done) | (go_simp; rfl)); intro gb172 hg w21 hbox hb; have n_ := a9 (Kd.R_below (rx HO_5.out) hb) (Kd.R_below (rx HO_7.out) hb) (blk_below (bx BK163.out) hb) (below_step lb hb) hbox (gw w hg) (gw w hg) (nl hg BK163) (nr hg BK163); clear HO_5 HO_7 BK163 HB; obtain ⟨HO_5, HO_7, BK163, HB, BK172, GW172, GE172, NB163_172, NB172_163⟩ := n_; clear hb hbox hg; have hnb22 := NB172_163.out; have hnc22 := NB163_172.out; have hcz23_0 := bc0 BK172; have hcz23_1 := bc1 BK172; have hcz23_2 := bc2 BK172; have hcz23_3 := bc3 BK172; have hfz23_0 := bf BK172 0; have hfz23_1 := bf BK172 1; have hfz23_2 := bf BK172 2; have hfz23_3 := bf BK172 3))
    have n0_ : Aside0 (Kd.R (Kd.int .i64) 3 ((((w21.setCell ⟨gb172, 0, none⟩ (.int .i64 ((rd_T45 l0_1 x22_1).f0))).setCell ⟨gb172, 1, none⟩ (.int .i64 ((rd_T45 l0_1 x22_1).f1))).setCell ⟨gb172, 2, none⟩ (.int .i64 ((rd_T45 l0_1 x22_1).f2))).setCell ⟨gb172, 3, none⟩ (.int .i64 ((rd_T45 l0_1 x22_1).f3))) w.heap.size (fun _ => True) v165 t164) := ⟨by exact rx (Kd.R_mono (Kd.R_far (p := ⟨gb172, 3, none⟩) (Kd.R_far (p := ⟨gb172, 2, none⟩) (Kd.R_far (p := ⟨gb172, 1, none⟩) (Kd.R_far (p := ⟨gb172, 0, none⟩) (Kd.R_types HO_5.out BK172.out (by decide)) (fun _ hk => hk.2) (.int .i64 ((rd_T45 l0_1 x22_1).f0))) (fun _ hk => hk.2) (.int .i64 ((rd_T45 l0_1 x22_1).f1))) (fun _ hk => hk.2) (.int .i64 ((rd_T45 l0_1 x22_1).f2))) (fun _ hk => hk.2) (.int .i64 ((rd_T45 l0_1 x22_1).f3))) (fun _ hk => trivial))⟩
    have n1_ : Aside0 (Kd.R Kd.bool 4 ((((w21.setCell ⟨gb172, 0, none⟩ (.int .i64 ((rd_T45 l0_1 x22_1).f0))).setCell ⟨gb172, 1, none⟩ (.int .i64 ((rd_T45 l0_1 x22_1).f1))).setCell ⟨gb172, 2, none⟩ (.int .i64 ((rd_T45 l0_1 x22_1).f2))).setCell ⟨gb172, 3, none⟩ (.int .i64 ((rd_T45 l0_1 x22_1).f3))) w.heap.size (fun _ => True) v169 x7_1) := ⟨by exact rx (Kd.R_mono (Kd.R_far (p := ⟨gb172, 3, none⟩) (Kd.R_far (p := ⟨gb172, 2, none⟩) (Kd.R_far (p := ⟨gb172, 1, none⟩) (Kd.R_far (p := ⟨gb172, 0, none⟩) (Kd.R_types HO_7.out BK172.out (by decide)) (fun _ hk => hk.2) (.int .i64 ((rd_T45 l0_1 x22_1).f0))) (fun _ hk => hk.2) (.int .i64 ((rd_T45 l0_1 x22_1).f1))) (fun _ hk => hk.2) (.int .i64 ((rd_T45 l0_1 x22_1).f2))) (fun _ hk => hk.2) (.int .i64 ((rd_T45 l0_1 x22_1).f3))) (fun _ hk => trivial))⟩
    have n2_ : Aside0 (((((w21.setCell ⟨gb172, 0, none⟩ (.int .i64 ((rd_T45 l0_1 x22_1).f0))).setCell ⟨gb172, 1, none⟩ (.int .i64 ((rd_T45 l0_1 x22_1).f1))).setCell ⟨gb172, 2, none⟩ (.int .i64 ((rd_T45 l0_1 x22_1).f2))).setCell ⟨gb172, 3, none⟩ (.int .i64 ((rd_T45 l0_1 x22_1).f3))).heap[gb163]? = some (.cells #[.int .i64 a0_0, .slice (some ad171) l0_1.length c0_1] 24 (0, 0))) := ⟨by (with_reducible repeat (first | refine blk_drewN ?_ _ | refine blk_drew ?_ | refine blk_alloc ?_ _)); refine blk_far ?_ NB163_172.out _; (with_reducible repeat (first | refine blk_drewN ?_ _ | refine blk_drew ?_ | refine blk_alloc ?_ _)); refine blk_far ?_ NB163_172.out _; (with_reducible repeat (first | refine blk_drewN ?_ _ | refine blk_drew ?_ | refine blk_alloc ?_ _)); refine blk_far ?_ NB163_172.out _; (with_reducible repeat (first | refine blk_drewN ?_ _ | refine blk_drew ?_ | refine blk_alloc ?_ _)); refine blk_far ?_ NB163_172.out _; exact bx BK163.out⟩
    have n3_ : Aside0 (((((w21.setCell ⟨gb172, 0, none⟩ (.int .i64 ((rd_T45 l0_1 x22_1).f0))).setCell ⟨gb172, 1, none⟩ (.int .i64 ((rd_T45 l0_1 x22_1).f1))).setCell ⟨gb172, 2, none⟩ (.int .i64 ((rd_T45 l0_1 x22_1).f2))).setCell ⟨gb172, 3, none⟩ (.int .i64 ((rd_T45 l0_1 x22_1).f3))).heap[gb172]? = some (.cells #[.int .i64 ((rd_T45 l0_1 x22_1).f0), .int .i64 ((rd_T45 l0_1 x22_1).f1), .int .i64 ((rd_T45 l0_1 x22_1).f2), .int .i64 ((rd_T45 l0_1 x22_1).f3)] 45 (0, 0))) := ⟨by (with_reducible repeat (first | refine blk_drewN ?_ _ | refine blk_drew ?_ | refine blk_alloc ?_ _)); refine blk_put (cs := #[.int .i64 ((rd_T45 l0_1 x22_1).f0), .int .i64 ((rd_T45 l0_1 x22_1).f1), .int .i64 ((rd_T45 l0_1 x22_1).f2), .int .i64 0]) ?_ 3 _ rfl; (with_reducible repeat (first | refine blk_drewN ?_ _ | refine blk_drew ?_ | refine blk_alloc ?_ _)); refine blk_put (cs := #[.int .i64 ((rd_T45 l0_1 x22_1).f0), .int .i64 ((rd_T45 l0_1 x22_1).f1), .int .i64 0, .int .i64 0]) ?_ 2 _ rfl; (with_reducible repeat (first | refine blk_drewN ?_ _ | refine blk_drew ?_ | refine blk_alloc ?_ _)); refine blk_put (cs := #[.int .i64 ((rd_T45 l0_1 x22_1).f0), .int .i64 0, .int .i64 0, .int .i64 0]) ?_ 1 _ rfl; (with_reducible repeat (first | refine blk_drewN ?_ _ | refine blk_drew ?_ | refine blk_alloc ?_ _)); refine blk_put (cs := #[.int .i64 0, .int .i64 0, .int .i64 0, .int .i64 0]) ?_ 0 _ rfl; exact bx BK172.out⟩
    have n4_ : Aside0 (Below w.heap.size w ((((w21.setCell ⟨gb172, 0, none⟩ (.int .i64 ((rd_T45 l0_1 x22_1).f0))).setCell ⟨gb172, 1, none⟩ (.int .i64 ((rd_T45 l0_1 x22_1).f1))).setCell ⟨gb172, 2, none⟩ (.int .i64 ((rd_T45 l0_1 x22_1).f2))).setCell ⟨gb172, 3, none⟩ (.int .i64 ((rd_T45 l0_1 x22_1).f3)))) := ⟨lb⟩
    (try clear HO_5)
    (try clear HO_7)
    (try clear BK163)
    (try clear BK172)
    (try clear HB)
    generalize ((((w21.setCell ⟨gb172, 0, none⟩ (.int .i64 ((rd_T45 l0_1 x22_1).f0))).setCell ⟨gb172, 1, none⟩ (.int .i64 ((rd_T45 l0_1 x22_1).f1))).setCell ⟨gb172, 2, none⟩ (.int .i64 ((rd_T45 l0_1 x22_1).f2))).setCell ⟨gb172, 3, none⟩ (.int .i64 ((rd_T45 l0_1 x22_1).f3))) = w24 at n0_ n1_ n2_ n3_ n4_ ⊢
    have HO_5 := n0_; have HO_7 := n1_; have BK163 := n2_; have BK172 := n3_; have HB := n4_; clear n0_ n1_ n2_ n3_ n4_; have n_ := a5 (Kd.R_drew HO_5.out) (Kd.R_drew HO_7.out) (blk_drew BK163.out) (blk_drew BK172.out) (below_drew1 HB.out); clear HO_5 HO_7 BK163 BK172 HB; obtain ⟨HO_5, HO_7, BK163, BK172, HB⟩ := n_; have p17 : 0 ≤ (((rd_T45 l0_1 x22_1).f0) : Int) := oda; have q17 : (((rd_T45 l0_1 x22_1).f0) : Int) < ((x7_1.length : Int) : Int) := oda
    obtain ⟨go17, co17, eo17, gb17, gl17, cl17, HG17⟩ := Kd.R_form HO_7.out (by omega)
    (first | cases eo17 | (injection eo17 with ea_ en_ ec_; (first | subst ea_ | (injection ea_ with ea_; subst ea_)); subst ec_; clear en_))
    have GB17 := ak gb17; have GG17 := ak HG17; clear gb17 gl17 HG17; obtain ⟨hx17_0, hf17_0⟩ := Kd.R_celln false HO_7.out (((rd_T45 l0_1 x22_1).f0) : Int) p17 q17; replace p17 := eq_true p17; replace q17 := eq_true q17; have HP26 := Kd.R_putn HO_7.out (((rd_T45 l0_1 x22_1).f0) : Int) true; rw [← Ny173.out] at HP26; have HQ26 := ak HP26; clear HP26; have p20 : 0 ≤ (((rd_T45 l0_1 x22_1).f1) : Int) := oda; have q20 : (((rd_T45 l0_1 x22_1).f1) : Int) < ((x7_1.length : Int) : Int) := oda; obtain ⟨hx20_0, hf20_0⟩ := Kd.R_celln false HQ26.out (((rd_T45 l0_1 x22_1).f1) : Int) p20 q20; replace p20 := eq_true p20; replace q20 := eq_true q20; have HP27 := Kd.R_putn HQ26.out (((rd_T45 l0_1 x22_1).f1) : Int) true; rw [← Ny174.out] at HP27; have HQ27 := ak HP27; clear HP27
    refine start_ (n := 10) (S := fun w' => w'.cell? ⟨gb172, 0, none⟩ = some (.int .i64 ((rd_T45 l0_1 x22_1).f0)) ∧ w'.cell? ⟨gb172, 1, none⟩ = some (.int .i64 ((rd_T45 l0_1 x22_1).f1)) ∧ w'.cell? ⟨gb172, 2, none⟩ = some (.int .i64 ((rd_T45 l0_1 x22_1).f2)) ∧ w'.cell? ⟨gb172, 3, none⟩ = some (.int .i64 ((rd_T45 l0_1 x22_1).f3))) (ds := [9]) #[F, F, F, F, F, F, F, F, F, F] (by kernel_rfl) rfl rfl ⟨(blk_cell BK172.out 0).trans rfl, (blk_cell BK172.out 1).trans rfl, (blk_cell BK172.out 2).trans rfl, (blk_cell BK172.out 3).trans rfl⟩ (fun hHeld => ?_); refine with_tabW euler_apart.tab6 euler_apart.bits6 (fun HT_ HW_ => ?_)
    generalize w24.drew = w25 at HO_5 HO_7 BK163 BK172 HB GG17 HQ26 HQ27 hf17_0 hf20_0 hx17_0 hx20_0 hHeld ⊢
    refine pure_ (i := 0) (N := some 26) (v := ?_) (a' := ?_) #[T, F, F, F, F, F, F, F, F, F] rfl rfl (any_of HT_.out (by kernel_rfl)) (fun _ _ _ h => h) (Or.inl ⟨by rfl, ?_⟩) ?_ ?_; rotate_left; intro w'; go_simp; with_reducible rfl; rotate_left; simp only [Act.put, sA, sZ, sS, i64_w, i32_w]; rfl
    refine pure_ (i := 1) (N := some 27) (v := ?_) (a' := ?_) #[T, T, F, F, F, F, F, F, F, F] rfl rfl (any_of HT_.out (by kernel_rfl)) (fun _ _ _ h => h) (Or.inl ⟨by rfl, ?_⟩) ?_ ?_; rotate_left; intro w'; go_simp; with_reducible rfl; rotate_left; simp only [Act.put, sA, sZ, sS, i64_w, i32_w]; rfl
    refine pure_ (i := 3) (N := some 29) (v := ?_) (a' := ?_) #[T, T, F, T, F, F, F, F, F, F] rfl rfl (any_of HT_.out (by kernel_rfl)) (fun _ _ _ h => h) (Or.inl ⟨by rfl, ?_⟩) ?_ ?_; rotate_left; intro w'; go_simp; with_reducible rfl; rotate_left; simp only [Act.put, sA, sZ, sS, i64_w, i32_w]; rfl
    refine pure_ (i := 4) (N := some 30) (v := ?_) (a' := ?_) #[T, T, F, T, T, F, F, F, F, F] rfl rfl (any_of HT_.out (by kernel_rfl)) (fun _ _ _ h => h) (Or.inl ⟨by rfl, ?_⟩) ?_ ?_; rotate_left; intro w'; go_simp; with_reducible rfl; rotate_left; simp only [Act.put, sA, sZ, sS, i64_w, i32_w]; rfl
    refine take_ (i := 2) (N := some 28) (v := ?_) (a' := ?_) #[T, T, T, T, T, F, F, F, F, F] rfl rfl (take_ofW HT_.out HW_.out (by kernel_rfl)) (fun _ _ _ h => h) (Or.inl ⟨by rfl, ?_⟩) hHeld ?_ ?_; rotate_left; rintro w' ⟨s0, s1, s2, s3⟩; go_simp; with_reducible rfl; rotate_left; simp only [Act.put, sA, sZ, sS, i64_w, i32_w]; rfl
    refine pure_ (i := 6) (N := some 32) (v := ?_) (a' := ?_) #[T, T, T, T, T, F, T, F, F, F] rfl rfl (any_of HT_.out (by kernel_rfl)) (fun _ _ _ h => h) (Or.inl ⟨by rfl, ?_⟩) ?_ ?_; rotate_left; intro w'; go_simp; with_reducible rfl; rotate_left; simp only [Act.put, sA, sZ, sS, i64_w, i32_w]; rfl
    refine take_ (i := 5) (N := some 31) (v := ?_) (a' := ?_) #[T, T, T, T, T, T, T, F, F, F] rfl rfl (take_ofW HT_.out HW_.out (by kernel_rfl)) (fun _ _ _ h => h) (Or.inl ⟨by rfl, ?_⟩) hHeld ?_ ?_; rotate_left; rintro w' ⟨s0, s1, s2, s3⟩; go_simp; with_reducible rfl; rotate_left; simp only [Act.put, sA, sZ, sS, i64_w, i32_w]; rfl
    refine one_ (i := 7) (N := none) #[T, T, T, T, T, T, T, T, F, F] rfl rfl (one_of HT_.out (by kernel_rfl)) (by decide) (fun K hK => ?_)
    refine skip_ (w1 := ?_) (by rfl) rfl ?_ ?_
    rotate_left
    ·
     go_simp
     rfl
    refine hK.out _ _ ⟨((cell_far (p := ⟨go17, _, none⟩) (fun e_ => Kd.own_blk (Kd.R_ne HO_7.out BK172.out (by decide)) e_.symm) _).trans (hHeld.1)), ((cell_far (p := ⟨go17, _, none⟩) (fun e_ => Kd.own_blk (Kd.R_ne HO_7.out BK172.out (by decide)) e_.symm) _).trans (hHeld.2.1)), ((cell_far (p := ⟨go17, _, none⟩) (fun e_ => Kd.own_blk (Kd.R_ne HO_7.out BK172.out (by decide)) e_.symm) _).trans (hHeld.2.2.1)), ((cell_far (p := ⟨go17, _, none⟩) (fun e_ => Kd.own_blk (Kd.R_ne HO_7.out BK172.out (by decide)) e_.symm) _).trans (hHeld.2.2.2))⟩ (fun hHeld => ?_)
    clear hK K
    refine pure_ (i := 8) (N := some 33) (v := ?_) (a' := ?_) #[T, T, T, T, T, T, T, T, T, F] rfl rfl (any_of HT_.out (by kernel_rfl)) (fun _ _ _ h => h) (Or.inl ⟨by rfl, ?_⟩) ?_ ?_; rotate_left; intro w'; go_simp; with_reducible rfl; rotate_left; simp only [Act.put, sA, sZ, sS, i64_w, i32_w]; rfl
    refine last_ (i := 9) (N := none) #[T, T, T, T, T, T, T, T, T, T] rfl rfl (one_of HT_.out (by kernel_rfl)) (by decide) (fun K hK => ?_)
    refine skip_ (w1 := ?_) (by rfl) rfl ?_ ?_
    rotate_left
    ·
     go_simp
     rfl
    refine hK.out _ _ ?_
    clear hK K
    refine done_ (done_of HT_.out (by kernel_rfl)) ?_
    try go_wp2
    go_roundg k1
    case measure => have := HK1.out; omega
    case rel => exact ⟨(y174), (wrap64 (x22_1 + 1)), (by first | rfl | (simp [*]; done)), H', ⟨by have := HK1.out; omega⟩, ⟨by exact rx (Kd.R_mono (Kd.R_far (p := ⟨go17, (((rd_T45 l0_1 x22_1).f1) : Int).toNat, none⟩) (Kd.R_far (p := ⟨go17, (((rd_T45 l0_1 x22_1).f0) : Int).toNat, none⟩) (Kd.R_types HO_5.out GG17.out (by decide)) (fun _ hk => hk.2) (.bool true)) (fun _ hk => hk.2) (.bool true)) (fun _ hk => trivial))⟩, ⟨by (with_reducible repeat (first | apply Kd.R_alloc | apply Kd.R_drewN | apply Kd.R_drew)); exact HQ27.out⟩, ⟨by (with_reducible repeat (first | refine blk_drewN ?_ _ | refine blk_drew ?_ | refine blk_alloc ?_ _)); refine blk_far ?_ (by have h_ := Kd.R_ne HO_7.out BK163.out (by decide); intro e_; exact h_ (by rw [e_]; rfl)) _; (with_reducible repeat (first | refine blk_drewN ?_ _ | refine blk_drew ?_ | refine blk_alloc ?_ _)); refine blk_far ?_ (by have h_ := Kd.R_ne HO_7.out BK163.out (by decide); intro e_; exact h_ (by rw [e_]; rfl)) _; exact bx BK163.out⟩, ⟨by repeat (first | (with_reducible first | exact HB.out | apply below_alloc | apply pw_below_drewN | apply below_drew1 | refine below_set ?_ GB17.out | refine below_set ?_ GB17.out | refine below_set ?_ GE163.out | refine below_set ?_ GE172.out) | exact HB.out)⟩⟩
   ·
    rw [if_neg c12] at H; have c12b0 : decide (x22_1 < (l0_1.length : Int)) = false := decide_eq_false c12; clear c12; replace H := Option.bind_eq_some_iff.mp H; obtain ⟨t175, A280, H⟩ := H; replace H : (euler_apart.l1 k1 t175 t164 x7_1 (x7_1.length : Int) 0) = some (r1, r2, r3) := H; have A28 := ak A280; clear A280; have H' := ak H; clear H; obtain ⟨Ao29, co29, eo29⟩ := Kd.R_slice HO_7.out; subst eo29
    go_wp2_with (first | ((with_reducible refine gate_callee (f := 32) rfl ?_); refine goesZ (some 36) rfl rfl Try.func32 (by kernel_rfl) rfl #[.slice Ao29 x7_1.length co29, .bool true] rfl ?_; (with_reducible refine (slices_Index_bool_bool.calls k1 _ _ x7_1 true t175 _ ?side1 ?side2 A28.out).mono ?_); (case side1 => repeat (first | exact (Kd.R_reads' HO_7.out).2.2 | (with_reducible refine Kd.C_alloc ?_ _) | (with_reducible refine Kd.C_drewN ?_ _) | (with_reducible refine Kd.C_drew ?_))); (case side2 => exact (Kd.R_reads' HO_7.out).2.1); rintro e w' ⟨rfl, ⟨nd, rfl⟩⟩; refine ⟨_, rfl, ?_⟩))
    go_loopg [2, 39] k1 (fun kq v2 v39 w' => ∃ (x2_2 : Int) (x39_2 : Int), v2 = .int .i64 x2_2 ∧ v39 = .int .i64 x39_2 ∧ Aside0 (euler_apart.l1 kq x2_2 t164 x7_1 (x7_1.length : Int) x39_2 = some (r1, r2, r3)) ∧ Aside0 (kq ≤ k1) ∧ Aside0 (Kd.R (Kd.int .i64) 3 w' w.heap.size (fun _ => True) v165 t164) ∧ Aside0 (Kd.R Kd.bool 4 w' w.heap.size (fun _ => True) (.slice Ao29 x7_1.length co29) x7_1) ∧ Aside0 (w'.heap[gb163]? = some (.cells #[.int .i64 a0_0, (.slice A0_1 l0_1.length c0_1)] 24 (0, 0))) ∧ Aside0 (Below w.heap.size w w'))
    case atStart => exact ⟨(t175), (0), (by first | rfl | (simp [*]; done)), (by first | rfl | (simp [*]; done)), H', ⟨Nat.le_refl _⟩, ⟨rx HO_5.out⟩, ⟨rx HO_7.out⟩, ⟨bx BK163.out⟩, ⟨lb⟩⟩
    case round =>
     clear H'; obtain ⟨x2_2, x39_2, rfl, rfl, HA, HK2, HO_5, HO_7, BK163, HB⟩ := hrel
     cases gk with
     | zero => exact absurd HA.out (by simp [euler_apart.l1])
     | succ k2 =>
      have H := HA.out; clear HA
      simp only [euler_apart.l1] at H
      by_cases c30 : x39_2 < (x7_1.length : Int)
      ·
       rw [if_pos c30] at H; have c30b0 := decide_eq_true c30; clear c30; replace H := ifd H; obtain ⟨c31b0, H⟩ := H; replace H := ifd H; obtain ⟨c32b0, H⟩ := H; obtain ⟨bq33, hbq33⟩ : ∃ b_ : Bool, b_ = (rdOf false x7_1 x39_2) := ⟨_, rfl⟩; replace H : (if bq33 = true then (if x39_2 < (t164.length : Int) then (if 0 ≤ x2_2 then (if x2_2 < (t164.length : Int) then (if (rd t164 x39_2) = (rd t164 x2_2) then (euler_apart.l1 k2 x2_2 t164 x7_1 (x7_1.length : Int) (wrap64 (x39_2 + 1))) else (some (x2_2, x39_2, true))) else (none)) else (none)) else (none)) else (euler_apart.l1 k2 x2_2 t164 x7_1 (x7_1.length : Int) (wrap64 (x39_2 + 1)))) = some (r1, r2, r3) := by rw [← hbq33] at H; exact H
       have Nbq33 := ak hbq33; clear hbq33
       by_cases c34 : bq33 = true
       ·
        subst c34
        have H1 : (if x39_2 < (t164.length : Int) then (if 0 ≤ x2_2 then (if x2_2 < (t164.length : Int) then (if (rd t164 x39_2) = (rd t164 x2_2) then (euler_apart.l1 k2 x2_2 t164 x7_1 (x7_1.length : Int) (wrap64 (x39_2 + 1))) else (some (x2_2, x39_2, true))) else (none)) else (none)) else (none)) = some (r1, r2, r3) := by rw [if_pos rfl] at H; exact H
        clear H; have H := H1; clear H1; replace H := ifd H; obtain ⟨c35b0, H⟩ := H; replace H := ifd H; obtain ⟨c36b0, H⟩ := H; replace H := ifd H; obtain ⟨c37b0, H⟩ := H
        by_cases c38 : (rd t164 x39_2) = (rd t164 x2_2)
        ·
         rw [if_pos c38] at H; have c38b0 : ((rd t164 x39_2) == (rd t164 x2_2)) = true := beq_iff_eq.mpr c38; have c38b1 : ((rd t164 x39_2) != (rd t164 x2_2)) = false := bne_eq_false_iff_eq.mpr c38; clear c38; have H' := ak H; clear H
         try go_wp2
         have n_ := a4 (Kd.R_drew HO_5.out) (Kd.R_drew HO_7.out) (blk_drew BK163.out) (below_drew1 HB.out); clear HO_5 HO_7 BK163 HB; obtain ⟨HO_5, HO_7, BK163, HB⟩ := n_; have p176 : 0 ≤ (x39_2 : Int) := oda; have q176 : x39_2 < (x7_1.length : Int) := oda; obtain ⟨ad176, e176, hx176_0⟩ := Kd.at_bool (Kd.R_reads' HO_7.out).2.2 x39_2 p176 q176
         (try rw [← Nbq33.out] at hx176_0)
         cases e176; replace p176 := eq_true p176; replace q176 := eq_true q176; obtain ⟨Ao40, co40, eo40⟩ := Kd.R_slice HO_5.out
         (first | subst eo40 | (injection eo40 with f1_ f2_ f3_; have f4_ := f1_.symm; have f5_ := f3_.symm; clear f1_ f2_ f3_; subst f4_; subst f5_))
         have p177 : 0 ≤ (x39_2 : Int) := oda; have q177 : x39_2 < (t164.length : Int) := oda; obtain ⟨ad177, e177, hx177_0⟩ := Kd.at_int (Kd.R_reads' HO_5.out).2.2 x39_2 p177 q177; cases e177; replace p177 := eq_true p177; replace q177 := eq_true q177; have p178 : 0 ≤ (x2_2 : Int) := oda; have q178 : x2_2 < (t164.length : Int) := oda; obtain ⟨ad178, e178, hx178_0⟩ := Kd.at_int (Kd.R_reads' HO_5.out).2.2 x2_2 p178 q178
         obtain rfl : ad177 = ad178 := (by injection e178)
         replace p178 := eq_true p178; replace q178 := eq_true q178
         refine start_ (n := 15) (S := fun w' => w'.cell? (ad176.add (x39_2).toNat) = some (.bool true) ∧ w'.cell? (ad177.add (x39_2).toNat) = some (.int .i64 (rd t164 x39_2)) ∧ w'.cell? (ad177.add (x2_2).toNat) = some (.int .i64 (rd t164 x2_2))) (ds := []) #[F, F, F, F, F, F, F, F, F, F, F, F, F, F, F] (by kernel_rfl) rfl rfl ⟨hx176_0, hx177_0, hx178_0⟩ (fun hHeld => ?_); refine with_tabW euler_apart.tab12 euler_apart.bits12 (fun HT_ HW_ => ?_)
         generalize wr.drew = w39 at HO_5 HO_7 BK163 HB hx176_0 hx177_0 hx178_0 hHeld ⊢
         refine pure_ (i := 0) (N := some 42) (v := ?_) (a' := ?_) #[T, F, F, F, F, F, F, F, F, F, F, F, F, F, F] rfl rfl (any_of HT_.out (by kernel_rfl)) (fun _ _ _ h => h) (Or.inl ⟨by rfl, ?_⟩) ?_ ?_; rotate_left; intro w'; go_simp; with_reducible rfl; rotate_left; simp only [Act.put, sA, sZ, sS, i64_w, i32_w]; rfl
         refine pure_ (i := 1) (N := some 43) (v := ?_) (a' := ?_) #[T, T, F, F, F, F, F, F, F, F, F, F, F, F, F] rfl rfl (any_of HT_.out (by kernel_rfl)) (fun _ _ _ h => h) (Or.inl ⟨by rfl, ?_⟩) ?_ ?_; rotate_left; intro w'; go_simp; with_reducible rfl; rotate_left; simp only [Act.put, sA, sZ, sS, i64_w, i32_w]; rfl
         refine pure_ (i := 2) (N := some 44) (v := ?_) (a' := ?_) #[T, T, T, F, F, F, F, F, F, F, F, F, F, F, F] rfl rfl (any_of HT_.out (by kernel_rfl)) (fun _ _ _ h => h) (Or.inl ⟨by rfl, ?_⟩) ?_ ?_; rotate_left; intro w'; go_simp; with_reducible rfl; rotate_left; simp only [Act.put, sA, sZ, sS, i64_w, i32_w]; rfl
         refine take_ (i := 3) (N := some 45) (v := ?_) (a' := ?_) #[T, T, T, T, F, F, F, F, F, F, F, F, F, F, F] rfl rfl (take_ofW HT_.out HW_.out (by kernel_rfl)) (fun _ _ _ h => h) (Or.inl ⟨by rfl, ?_⟩) hHeld ?_ ?_; rotate_left; rintro w' ⟨s0, s1, s2⟩; go_simp; with_reducible rfl; rotate_left; simp only [Act.put, sA, sZ, sS, i64_w, i32_w]; rfl
         refine pure_ (i := 4) (N := some 46) (v := ?_) (a' := ?_) #[T, T, T, T, T, F, F, F, F, F, F, F, F, F, F] rfl rfl (any_of HT_.out (by kernel_rfl)) (fun _ _ _ h => h) (Or.inl ⟨by rfl, ?_⟩) ?_ ?_; rotate_left; intro w'; go_simp; with_reducible rfl; rotate_left; simp only [Act.put, sA, sZ, sS, i64_w, i32_w]; rfl
         refine pure_ (i := 5) (N := some 47) (v := ?_) (a' := ?_) #[T, T, T, T, T, T, F, F, F, F, F, F, F, F, F] rfl rfl (any_of HT_.out (by kernel_rfl)) (fun _ _ _ h => h) (Or.inl ⟨by rfl, ?_⟩) ?_ ?_; rotate_left; intro w'; go_simp; with_reducible rfl; rotate_left; simp only [Act.put, sA, sZ, sS, i64_w, i32_w]; rfl
         refine pure_ (i := 6) (N := some 48) (v := ?_) (a' := ?_) #[T, T, T, T, T, T, T, F, F, F, F, F, F, F, F] rfl rfl (any_of HT_.out (by kernel_rfl)) (fun _ _ _ h => h) (Or.inl ⟨by rfl, ?_⟩) ?_ ?_; rotate_left; intro w'; go_simp; with_reducible rfl; rotate_left; simp only [Act.put, sA, sZ, sS, i64_w, i32_w]; rfl
         refine pure_ (i := 7) (N := some 49) (v := ?_) (a' := ?_) #[T, T, T, T, T, T, T, T, F, F, F, F, F, F, F] rfl rfl (any_of HT_.out (by kernel_rfl)) (fun _ _ _ h => h) (Or.inl ⟨by rfl, ?_⟩) ?_ ?_; rotate_left; intro w'; go_simp; with_reducible rfl; rotate_left; simp only [Act.put, sA, sZ, sS, i64_w, i32_w]; rfl
         refine pure_ (i := 9) (N := some 51) (v := ?_) (a' := ?_) #[T, T, T, T, T, T, T, T, F, T, F, F, F, F, F] rfl rfl (any_of HT_.out (by kernel_rfl)) (fun _ _ _ h => h) (Or.inl ⟨by rfl, ?_⟩) ?_ ?_; rotate_left; intro w'; go_simp; with_reducible rfl; rotate_left; simp only [Act.put, sA, sZ, sS, i64_w, i32_w]; rfl
         refine pure_ (i := 10) (N := some 52) (v := ?_) (a' := ?_) #[T, T, T, T, T, T, T, T, F, T, T, F, F, F, F] rfl rfl (any_of HT_.out (by kernel_rfl)) (fun _ _ _ h => h) (Or.inl ⟨by rfl, ?_⟩) ?_ ?_; rotate_left; intro w'; go_simp; with_reducible rfl; rotate_left; simp only [Act.put, sA, sZ, sS, i64_w, i32_w]; rfl
         refine pure_ (i := 11) (N := some 53) (v := ?_) (a' := ?_) #[T, T, T, T, T, T, T, T, F, T, T, T, F, F, F] rfl rfl (any_of HT_.out (by kernel_rfl)) (fun _ _ _ h => h) (Or.inl ⟨by rfl, ?_⟩) ?_ ?_; rotate_left; intro w'; go_simp; with_reducible rfl; rotate_left; simp only [Act.put, sA, sZ, sS, i64_w, i32_w]; rfl
         refine take_ (i := 8) (N := some 50) (v := ?_) (a' := ?_) #[T, T, T, T, T, T, T, T, T, T, T, T, F, F, F] rfl rfl (take_ofW HT_.out HW_.out (by kernel_rfl)) (fun _ _ _ h => h) (Or.inl ⟨by rfl, ?_⟩) hHeld ?_ ?_; rotate_left; rintro w' ⟨s0, s1, s2⟩; go_simp; with_reducible rfl; rotate_left; simp only [Act.put, sA, sZ, sS, i64_w, i32_w]; rfl
         refine take_ (i := 12) (N := some 54) (v := ?_) (a' := ?_) #[T, T, T, T, T, T, T, T, T, T, T, T, T, F, F] rfl rfl (take_ofW HT_.out HW_.out (by kernel_rfl)) (fun _ _ _ h => h) (Or.inl ⟨by rfl, ?_⟩) hHeld ?_ ?_; rotate_left; rintro w' ⟨s0, s1, s2⟩; go_simp; with_reducible rfl; rotate_left; simp only [Act.put, sA, sZ, sS, i64_w, i32_w]; rfl
         refine pure_ (i := 13) (N := some 55) (v := ?_) (a' := ?_) #[T, T, T, T, T, T, T, T, T, T, T, T, T, T, F] rfl rfl (any_of HT_.out (by kernel_rfl)) (fun _ _ _ h => h) (Or.inl ⟨by rfl, ?_⟩) ?_ ?_; rotate_left; intro w'; go_simp; with_reducible rfl; rotate_left; simp only [Act.put, sA, sZ, sS, i64_w, i32_w]; rfl
         refine pure_ (i := 14) (N := some 56) (v := ?_) (a' := ?_) #[T, T, T, T, T, T, T, T, T, T, T, T, T, T, T] rfl rfl (any_of HT_.out (by kernel_rfl)) (fun _ _ _ h => h) (Or.inl ⟨by rfl, ?_⟩) ?_ ?_; rotate_left; intro w'; go_simp; with_reducible rfl; rotate_left; simp only [Act.put, sA, sZ, sS, i64_w, i32_w]; rfl
         refine done_ (done_of HT_.out (by kernel_rfl)) ?_
         try go_wp2
         go_roundg k2
         case measure => have := HK1.out; have := HK2.out; omega
         case rel => exact ⟨(x2_2), (wrap64 (x39_2 + 1)), (by first | rfl | (simp [*]; done)), (by first | rfl | (simp [*]; done)), H', ⟨by have := HK1.out; have := HK2.out; omega⟩, ⟨rx HO_5.out⟩, ⟨rx HO_7.out⟩, ⟨bx BK163.out⟩, ⟨lb⟩⟩
        ·
         rw [if_neg c38] at H; have c38b0 : ((rd t164 x39_2) == (rd t164 x2_2)) = false := beq_eq_false_iff_ne.mpr c38; have c38b1 : ((rd t164 x39_2) != (rd t164 x2_2)) = true := bne_iff_ne.mpr c38
         simp only [Option.some.injEq, Prod.mk.injEq] at H
         obtain ⟨rfl, rfl, rfl⟩ := H
         try go_wp2
         have n_ := a4 (Kd.R_drew HO_5.out) (Kd.R_drew HO_7.out) (blk_drew BK163.out) (below_drew1 HB.out); clear HO_5 HO_7 BK163 HB; obtain ⟨HO_5, HO_7, BK163, HB⟩ := n_; have p176 : 0 ≤ (x39_2 : Int) := oda; have q176 : x39_2 < (x7_1.length : Int) := oda; obtain ⟨ad176, e176, hx176_0⟩ := Kd.at_bool (Kd.R_reads' HO_7.out).2.2 x39_2 p176 q176
         (try rw [← Nbq33.out] at hx176_0)
         cases e176; replace p176 := eq_true p176; replace q176 := eq_true q176; obtain ⟨Ao42, co42, eo42⟩ := Kd.R_slice HO_5.out
         (first | subst eo42 | (injection eo42 with f1_ f2_ f3_; have f4_ := f1_.symm; have f5_ := f3_.symm; clear f1_ f2_ f3_; subst f4_; subst f5_))
         have p177 : 0 ≤ (x39_2 : Int) := oda; have q177 : x39_2 < (t164.length : Int) := oda; obtain ⟨ad177, e177, hx177_0⟩ := Kd.at_int (Kd.R_reads' HO_5.out).2.2 x39_2 p177 q177; cases e177; replace p177 := eq_true p177; replace q177 := eq_true q177; have p178 : 0 ≤ (x2_2 : Int) := oda; have q178 : x2_2 < (t164.length : Int) := oda; obtain ⟨ad178, e178, hx178_0⟩ := Kd.at_int (Kd.R_reads' HO_5.out).2.2 x2_2 p178 q178
         obtain rfl : ad177 = ad178 := (by injection e178)
         replace p178 := eq_true p178; replace q178 := eq_true q178
         refine start_ (n := 15) (S := fun w' => w'.cell? (ad176.add (x39_2).toNat) = some (.bool true) ∧ w'.cell? (ad177.add (x39_2).toNat) = some (.int .i64 (rd t164 x39_2)) ∧ w'.cell? (ad177.add (x2_2).toNat) = some (.int .i64 (rd t164 x2_2))) (ds := []) #[F, F, F, F, F, F, F, F, F, F, F, F, F, F, F] (by kernel_rfl) rfl rfl ⟨hx176_0, hx177_0, hx178_0⟩ (fun hHeld => ?_); refine with_tabW euler_apart.tab12 euler_apart.bits12 (fun HT_ HW_ => ?_)
         generalize wr.drew = w41 at HO_5 HO_7 BK163 HB hx176_0 hx177_0 hx178_0 hHeld ⊢
         refine pure_ (i := 0) (N := some 42) (v := ?_) (a' := ?_) #[T, F, F, F, F, F, F, F, F, F, F, F, F, F, F] rfl rfl (any_of HT_.out (by kernel_rfl)) (fun _ _ _ h => h) (Or.inl ⟨by rfl, ?_⟩) ?_ ?_; rotate_left; intro w'; go_simp; with_reducible rfl; rotate_left; simp only [Act.put, sA, sZ, sS, i64_w, i32_w]; rfl
         refine pure_ (i := 1) (N := some 43) (v := ?_) (a' := ?_) #[T, T, F, F, F, F, F, F, F, F, F, F, F, F, F] rfl rfl (any_of HT_.out (by kernel_rfl)) (fun _ _ _ h => h) (Or.inl ⟨by rfl, ?_⟩) ?_ ?_; rotate_left; intro w'; go_simp; with_reducible rfl; rotate_left; simp only [Act.put, sA, sZ, sS, i64_w, i32_w]; rfl
         refine pure_ (i := 2) (N := some 44) (v := ?_) (a' := ?_) #[T, T, T, F, F, F, F, F, F, F, F, F, F, F, F] rfl rfl (any_of HT_.out (by kernel_rfl)) (fun _ _ _ h => h) (Or.inl ⟨by rfl, ?_⟩) ?_ ?_; rotate_left; intro w'; go_simp; with_reducible rfl; rotate_left; simp only [Act.put, sA, sZ, sS, i64_w, i32_w]; rfl
         refine take_ (i := 3) (N := some 45) (v := ?_) (a' := ?_) #[T, T, T, T, F, F, F, F, F, F, F, F, F, F, F] rfl rfl (take_ofW HT_.out HW_.out (by kernel_rfl)) (fun _ _ _ h => h) (Or.inl ⟨by rfl, ?_⟩) hHeld ?_ ?_; rotate_left; rintro w' ⟨s0, s1, s2⟩; go_simp; with_reducible rfl; rotate_left; simp only [Act.put, sA, sZ, sS, i64_w, i32_w]; rfl
         refine pure_ (i := 4) (N := some 46) (v := ?_) (a' := ?_) #[T, T, T, T, T, F, F, F, F, F, F, F, F, F, F] rfl rfl (any_of HT_.out (by kernel_rfl)) (fun _ _ _ h => h) (Or.inl ⟨by rfl, ?_⟩) ?_ ?_; rotate_left; intro w'; go_simp; with_reducible rfl; rotate_left; simp only [Act.put, sA, sZ, sS, i64_w, i32_w]; rfl
         refine pure_ (i := 5) (N := some 47) (v := ?_) (a' := ?_) #[T, T, T, T, T, T, F, F, F, F, F, F, F, F, F] rfl rfl (any_of HT_.out (by kernel_rfl)) (fun _ _ _ h => h) (Or.inl ⟨by rfl, ?_⟩) ?_ ?_; rotate_left; intro w'; go_simp; with_reducible rfl; rotate_left; simp only [Act.put, sA, sZ, sS, i64_w, i32_w]; rfl
         refine pure_ (i := 6) (N := some 48) (v := ?_) (a' := ?_) #[T, T, T, T, T, T, T, F, F, F, F, F, F, F, F] rfl rfl (any_of HT_.out (by kernel_rfl)) (fun _ _ _ h => h) (Or.inl ⟨by rfl, ?_⟩) ?_ ?_; rotate_left; intro w'; go_simp; with_reducible rfl; rotate_left; simp only [Act.put, sA, sZ, sS, i64_w, i32_w]; rfl
         refine pure_ (i := 7) (N := some 49) (v := ?_) (a' := ?_) #[T, T, T, T, T, T, T, T, F, F, F, F, F, F, F] rfl rfl (any_of HT_.out (by kernel_rfl)) (fun _ _ _ h => h) (Or.inl ⟨by rfl, ?_⟩) ?_ ?_; rotate_left; intro w'; go_simp; with_reducible rfl; rotate_left; simp only [Act.put, sA, sZ, sS, i64_w, i32_w]; rfl
         refine pure_ (i := 9) (N := some 51) (v := ?_) (a' := ?_) #[T, T, T, T, T, T, T, T, F, T, F, F, F, F, F] rfl rfl (any_of HT_.out (by kernel_rfl)) (fun _ _ _ h => h) (Or.inl ⟨by rfl, ?_⟩) ?_ ?_; rotate_left; intro w'; go_simp; with_reducible rfl; rotate_left; simp only [Act.put, sA, sZ, sS, i64_w, i32_w]; rfl
         refine pure_ (i := 10) (N := some 52) (v := ?_) (a' := ?_) #[T, T, T, T, T, T, T, T, F, T, T, F, F, F, F] rfl rfl (any_of HT_.out (by kernel_rfl)) (fun _ _ _ h => h) (Or.inl ⟨by rfl, ?_⟩) ?_ ?_; rotate_left; intro w'; go_simp; with_reducible rfl; rotate_left; simp only [Act.put, sA, sZ, sS, i64_w, i32_w]; rfl
         refine pure_ (i := 11) (N := some 53) (v := ?_) (a' := ?_) #[T, T, T, T, T, T, T, T, F, T, T, T, F, F, F] rfl rfl (any_of HT_.out (by kernel_rfl)) (fun _ _ _ h => h) (Or.inl ⟨by rfl, ?_⟩) ?_ ?_; rotate_left; intro w'; go_simp; with_reducible rfl; rotate_left; simp only [Act.put, sA, sZ, sS, i64_w, i32_w]; rfl
         refine take_ (i := 8) (N := some 50) (v := ?_) (a' := ?_) #[T, T, T, T, T, T, T, T, T, T, T, T, F, F, F] rfl rfl (take_ofW HT_.out HW_.out (by kernel_rfl)) (fun _ _ _ h => h) (Or.inl ⟨by rfl, ?_⟩) hHeld ?_ ?_; rotate_left; rintro w' ⟨s0, s1, s2⟩; go_simp; with_reducible rfl; rotate_left; simp only [Act.put, sA, sZ, sS, i64_w, i32_w]; rfl
         refine take_ (i := 12) (N := some 54) (v := ?_) (a' := ?_) #[T, T, T, T, T, T, T, T, T, T, T, T, T, F, F] rfl rfl (take_ofW HT_.out HW_.out (by kernel_rfl)) (fun _ _ _ h => h) (Or.inl ⟨by rfl, ?_⟩) hHeld ?_ ?_; rotate_left; rintro w' ⟨s0, s1, s2⟩; go_simp; with_reducible rfl; rotate_left; simp only [Act.put, sA, sZ, sS, i64_w, i32_w]; rfl
         refine pure_ (i := 13) (N := some 55) (v := ?_) (a' := ?_) #[T, T, T, T, T, T, T, T, T, T, T, T, T, T, F] rfl rfl (any_of HT_.out (by kernel_rfl)) (fun _ _ _ h => h) (Or.inl ⟨by rfl, ?_⟩) ?_ ?_; rotate_left; intro w'; go_simp; with_reducible rfl; rotate_left; simp only [Act.put, sA, sZ, sS, i64_w, i32_w]; rfl
         refine pure_ (i := 14) (N := some 56) (v := ?_) (a' := ?_) #[T, T, T, T, T, T, T, T, T, T, T, T, T, T, T] rfl rfl (any_of HT_.out (by kernel_rfl)) (fun _ _ _ h => h) (Or.inl ⟨by rfl, ?_⟩) ?_ ?_; rotate_left; intro w'; go_simp; with_reducible rfl; rotate_left; simp only [Act.put, sA, sZ, sS, i64_w, i32_w]; rfl
         refine done_ (done_of HT_.out (by kernel_rfl)) ?_
         try go_wp2
         go_ret3
         exact ⟨by first | rfl | (simp [errW_none, errW_some] <;> rfl) | (simp [*, errW_none, errW_some] <;> rfl), lb⟩
       ·
        replace c34 := Bool.eq_false_iff.mpr c34; subst c34
        have H1 : (euler_apart.l1 k2 x2_2 t164 x7_1 (x7_1.length : Int) (wrap64 (x39_2 + 1))) = some (r1, r2, r3) := by rw [if_neg (show ¬ (false = true) by decide)] at H; exact H
        clear H; have H := H1; clear H1; have H' := ak H; clear H
        try go_wp2
        have n_ := a4 (Kd.R_drew HO_5.out) (Kd.R_drew HO_7.out) (blk_drew BK163.out) (below_drew1 HB.out); clear HO_5 HO_7 BK163 HB; obtain ⟨HO_5, HO_7, BK163, HB⟩ := n_; have p176 : 0 ≤ (x39_2 : Int) := oda; have q176 : x39_2 < (x7_1.length : Int) := oda; obtain ⟨ad176, e176, hx176_0⟩ := Kd.at_bool (Kd.R_reads' HO_7.out).2.2 x39_2 p176 q176
        (try rw [← Nbq33.out] at hx176_0)
        cases e176; replace p176 := eq_true p176; replace q176 := eq_true q176
        refine start_ (n := 15) (S := fun w' => w'.cell? (ad176.add (x39_2).toNat) = some (.bool false)) (ds := []) #[F, F, F, F, F, F, F, F, F, F, F, F, F, F, F] (by kernel_rfl) rfl rfl (hx176_0) (fun hHeld => ?_); refine with_tabW euler_apart.tab12 euler_apart.bits12 (fun HT_ HW_ => ?_)
        generalize wr.drew = w43 at HO_5 HO_7 BK163 HB hx176_0 hHeld ⊢
        refine pure_ (i := 0) (N := some 42) (v := ?_) (a' := ?_) #[T, F, F, F, F, F, F, F, F, F, F, F, F, F, F] rfl rfl (any_of HT_.out (by kernel_rfl)) (fun _ _ _ h => h) (Or.inl ⟨by rfl, ?_⟩) ?_ ?_; rotate_left; intro w'; go_simp; with_reducible rfl; rotate_left; simp only [Act.put, sA, sZ, sS, i64_w, i32_w]; rfl
        refine pure_ (i := 1) (N := some 43) (v := ?_) (a' := ?_) #[T, T, F, F, F, F, F, F, F, F, F, F, F, F, F] rfl rfl (any_of HT_.out (by kernel_rfl)) (fun _ _ _ h => h) (Or.inl ⟨by rfl, ?_⟩) ?_ ?_; rotate_left; intro w'; go_simp; with_reducible rfl; rotate_left; simp only [Act.put, sA, sZ, sS, i64_w, i32_w]; rfl
        refine pure_ (i := 2) (N := some 44) (v := ?_) (a' := ?_) #[T, T, T, F, F, F, F, F, F, F, F, F, F, F, F] rfl rfl (any_of HT_.out (by kernel_rfl)) (fun _ _ _ h => h) (Or.inl ⟨by rfl, ?_⟩) ?_ ?_; rotate_left; intro w'; go_simp; with_reducible rfl; rotate_left; simp only [Act.put, sA, sZ, sS, i64_w, i32_w]; rfl
        refine take_ (i := 3) (N := some 45) (v := ?_) (a' := ?_) #[T, T, T, T, F, F, F, F, F, F, F, F, F, F, F] rfl rfl (take_ofW HT_.out HW_.out (by kernel_rfl)) (fun _ _ _ h => h) (Or.inl ⟨by rfl, ?_⟩) hHeld ?_ ?_
        rotate_left
        ·
         intro w' s0
         go_simp
         with_reducible rfl
        rotate_left
        ·
         simp only [Act.put, sA, sZ, sS, i64_w, i32_w]
         rfl
        refine pure_ (i := 4) (N := some 46) (v := ?_) (a' := ?_) #[T, T, T, T, T, F, F, F, F, F, F, F, F, F, F] rfl rfl (any_of HT_.out (by kernel_rfl)) (fun _ _ _ h => h) (Or.inl ⟨by rfl, ?_⟩) ?_ ?_; rotate_left; intro w'; go_simp; with_reducible rfl; rotate_left; simp only [Act.put, sA, sZ, sS, i64_w, i32_w]; rfl
        refine pure_ (i := 5) (N := some 47) (v := undef) (a' := ?_) #[T, T, T, T, T, T, F, F, F, F, F, F, F, F, F] rfl rfl (any_of HT_.out (by kernel_rfl)) (fun _ _ _ h => h) (Or.inr ⟨by rfl, rfl⟩) ?_ ?_
        rotate_left
        ·
         simp only [Act.put, sA, sZ, sS, i64_w, i32_w]
         rfl
        refine pure_ (i := 6) (N := some 48) (v := undef) (a' := ?_) #[T, T, T, T, T, T, T, F, F, F, F, F, F, F, F] rfl rfl (any_of HT_.out (by kernel_rfl)) (fun _ _ _ h => h) (Or.inr ⟨by rfl, rfl⟩) ?_ ?_
        rotate_left
        ·
         simp only [Act.put, sA, sZ, sS, i64_w, i32_w]
         rfl
        refine pure_ (i := 7) (N := some 49) (v := undef) (a' := ?_) #[T, T, T, T, T, T, T, T, F, F, F, F, F, F, F] rfl rfl (any_of HT_.out (by kernel_rfl)) (fun _ _ _ h => h) (Or.inr ⟨by rfl, rfl⟩) ?_ ?_
        rotate_left
        ·
         simp only [Act.put, sA, sZ, sS, i64_w, i32_w]
         rfl
        refine pure_ (i := 8) (N := some 50) (v := undef) (a' := ?_) #[T, T, T, T, T, T, T, T, T, F, F, F, F, F, F] rfl rfl (any_of HT_.out (by kernel_rfl)) (fun _ _ _ h => h) (Or.inr ⟨by rfl, rfl⟩) ?_ ?_
        rotate_left
        ·
         simp only [Act.put, sA, sZ, sS, i64_w, i32_w]
         rfl
        refine pure_ (i := 9) (N := some 51) (v := undef) (a' := ?_) #[T, T, T, T, T, T, T, T, T, T, F, F, F, F, F] rfl rfl (any_of HT_.out (by kernel_rfl)) (fun _ _ _ h => h) (Or.inr ⟨by rfl, rfl⟩) ?_ ?_
        rotate_left
        ·
         simp only [Act.put, sA, sZ, sS, i64_w, i32_w]
         rfl
        refine pure_ (i := 10) (N := some 52) (v := undef) (a' := ?_) #[T, T, T, T, T, T, T, T, T, T, T, F, F, F, F] rfl rfl (any_of HT_.out (by kernel_rfl)) (fun _ _ _ h => h) (Or.inr ⟨by rfl, rfl⟩) ?_ ?_
        rotate_left
        ·
         simp only [Act.put, sA, sZ, sS, i64_w, i32_w]
         rfl
        refine pure_ (i := 11) (N := some 53) (v := undef) (a' := ?_) #[T, T, T, T, T, T, T, T, T, T, T, T, F, F, F] rfl rfl (any_of HT_.out (by kernel_rfl)) (fun _ _ _ h => h) (Or.inr ⟨by rfl, rfl⟩) ?_ ?_
        rotate_left
        ·
         simp only [Act.put, sA, sZ, sS, i64_w, i32_w]
         rfl
        refine pure_ (i := 12) (N := some 54) (v := undef) (a' := ?_) #[T, T, T, T, T, T, T, T, T, T, T, T, T, F, F] rfl rfl (any_of HT_.out (by kernel_rfl)) (fun _ _ _ h => h) (Or.inr ⟨by rfl, rfl⟩) ?_ ?_
        rotate_left
        ·
         simp only [Act.put, sA, sZ, sS, i64_w, i32_w]
         rfl
        refine pure_ (i := 13) (N := some 55) (v := undef) (a' := ?_) #[T, T, T, T, T, T, T, T, T, T, T, T, T, T, F] rfl rfl (any_of HT_.out (by kernel_rfl)) (fun _ _ _ h => h) (Or.inr ⟨by rfl, rfl⟩) ?_ ?_
        rotate_left
        ·
         simp only [Act.put, sA, sZ, sS, i64_w, i32_w]
         rfl
        refine pure_ (i := 14) (N := some 56) (v := ?_) (a' := ?_) #[T, T, T, T, T, T, T, T, T, T, T, T, T, T, T] rfl rfl (any_of HT_.out (by kernel_rfl)) (fun _ _ _ h => h) (Or.inl ⟨by rfl, ?_⟩) ?_ ?_; rotate_left; intro w'; go_simp; with_reducible rfl; rotate_left; simp only [Act.put, sA, sZ, sS, i64_w, i32_w]; rfl
        refine done_ (done_of HT_.out (by kernel_rfl)) ?_
        try go_wp2
        go_roundg k2
        case measure => have := HK1.out; have := HK2.out; omega
        case rel => exact ⟨(x2_2), (wrap64 (x39_2 + 1)), (by first | rfl | (simp [*]; done)), (by first | rfl | (simp [*]; done)), H', ⟨by have := HK1.out; have := HK2.out; omega⟩, ⟨rx HO_5.out⟩, ⟨rx HO_7.out⟩, ⟨bx BK163.out⟩, ⟨lb⟩⟩
      ·
       rw [if_neg c30] at H; have c30b0 : decide (x39_2 < (x7_1.length : Int)) = false := decide_eq_false c30; clear c30; obtain ⟨ji44, hji44⟩ : ∃ j_ : Int, (mx x2_2 0) = j_ := ⟨_, rfl⟩; replace H : (some (ji44, 0, false)) = some (r1, r2, r3) := by first | (rw [hji44] at H; exact H) | (simp only [hji44] at H ⊢; exact H)
       have hji44_ : (if x2_2 < 0 then 0 else x2_2) = ji44 := hji44
       simp only [Option.some.injEq, Prod.mk.injEq] at H
       obtain ⟨rfl, rfl, rfl⟩ := H
       go_wp2
       go_ret3
       exact ⟨by first | rfl | (simp [errW_none, errW_some] <;> rfl) | (simp only [← hji44]; first | rfl | (simp [errW_none, errW_some] <;> rfl)) | (simp [*, errW_none, errW_some] <;> rfl), lb⟩
end Go.Proofs.Ytplbkggdnonfbaa.Q
