import Derived.Test.YtplbkggdnonfbaaQ0
import Derived.Test.YtplbkggdnonfbaaQ3
import Derived.Test.YtplbkggdnonfbaaQ5
namespace Go.Proofs.Ytplbkggdnonfbaa.Q
open Go.RowKit Go.Proofs.YtplbkggdnonfbaaW.PrintWords Go.Proofs.YtplbkggdnonfbaaW.PrintLast Go.Proofs.YtplbkggdnonfbaaW.PrintMore
attribute [local go_sem] max2_int min2_int max_two min_two max_three min_three max_four min_four   -- for this text's walks alone
set_option linter.unusedVariables false
set_option linter.unusedSimpArgs false

/-! ### walk_Parts: function 31 -/
mutual
def walk_Parts.l0 : Nat → List (List Int) → List (S45) → Int → Int → Int → List (S45) → Option (List Int × Int)
  | 0, _, _, _, _, _, _ => none
  | k + 1, x5, x26, x27, x28, x125000, x125001 => if x28 < x27 then (if 0 ≤ x28 then (if x28 < (x26.length : Int) then (if 0 ≤ ((rd_T45 x26 x28).f0) then (if ((rd_T45 x26 x28).f0) < (x5.length : Int) then (if (rd_L2 x5 ((rd_T45 x26 x28).f0)).length < 17592186044416 then ((some (x5.set (((rd_T45 x26 x28).f0) : Int).toNat ((rd_L2 x5 ((rd_T45 x26 x28).f0)) ++ [(rd_T45 x26 x28).f1]) : List (List Int))).bind fun y137 => (if 0 ≤ ((rd_T45 x26 x28).f1) then (if ((rd_T45 x26 x28).f1) < (x5.length : Int) then (if (rd_L2 y137 ((rd_T45 x26 x28).f1)).length < 17592186044416 then (walk_Parts.l0 k (y137.set (((rd_T45 x26 x28).f1) : Int).toNat ((rd_L2 y137 ((rd_T45 x26 x28).f1)) ++ [(rd_T45 x26 x28).f0])) x26 x27 (wrap64 (x28 + 1)) x125000 x125001) else (none)) else (none)) else (none))) else (none)) else (none)) else (none)) else (none)) else (none)) else ((walk_filled.f k x125000 (-1)).bind fun t143 => (walk_Parts.l1 k x5 t143 0 x125000 0))
def walk_Parts.l1 : Nat → List (List Int) → List Int → Int → Int → Int → Option (List Int × Int)
  | 0, _, _, _, _, _ => none
  | k + 1, x5, x8, x9, x63, x64 => if x64 < x63 then (if 0 ≤ x64 then (if x64 < (x8.length : Int) then (if (rd x8 x64) ≥ 0 then (walk_Parts.l1 k x5 x8 x9 x63 (wrap64 (x64 + 1))) else (walk_Parts.l2 k x5 (x8.set (x64 : Int).toNat x9) x9 (([x64] : List Int)) x63 x64)) else (none)) else (none)) else (some (x8, 0))
def walk_Parts.l2 : Nat → List (List Int) → List Int → Int → List Int → Int → Int → Option (List Int × Int)
  | 0, _, _, _, _, _, _ => none
  | k + 1, x5, x8, x9, x11, x63, x64 => if (x11.length : Int) > 0 then (if 0 ≤ (wrap64 ((x11.length : Int) - 1)) then (if (wrap64 ((x11.length : Int) - 1)) < (x11.length : Int) then (if (wrap64 ((x11.length : Int) - 1)) ≤ (x11.length : Int) then (if 0 ≤ (rd x11 (wrap64 ((x11.length : Int) - 1))) then (if (rd x11 (wrap64 ((x11.length : Int) - 1))) < (x5.length : Int) then (walk_Parts.l3 k x5 x8 x9 (x11.take ((wrap64 ((x11.length : Int) - 1)) : Int).toNat) x63 x64 (rd_L2 x5 (rd x11 (wrap64 ((x11.length : Int) - 1)))) ((rd_L2 x5 (rd x11 (wrap64 ((x11.length : Int) - 1)))).length : Int) 0) else (none)) else (none)) else (none)) else (none)) else (none)) else (walk_Parts.l1 k x5 x8 (wrap64 (x9 + 1)) x63 (wrap64 (x64 + 1)))
def walk_Parts.l3 : Nat → List (List Int) → List Int → Int → List Int → Int → Int → List Int → Int → Int → Option (List Int × Int)
  | 0, _, _, _, _, _, _, _, _, _ => none
  | k + 1, x5, x8, x9, x11, x63, x64, x95, x96, x97 => if x97 < x96 then (if 0 ≤ x97 then (if x97 < (x95.length : Int) then (if 0 ≤ (rd x95 x97) then (if (rd x95 x97) < (x8.length : Int) then (if (rd x8 (rd x95 x97)) < 0 then (if x11.length < 17592186044416 then (walk_Parts.l3 k x5 (x8.set ((rd x95 x97) : Int).toNat x9) x9 (x11 ++ [rd x95 x97]) x63 x64 x95 x96 (wrap64 (x97 + 1))) else (none)) else (walk_Parts.l3 k x5 x8 x9 x11 x63 x64 x95 x96 (wrap64 (x97 + 1)))) else (none)) else (none)) else (none)) else (none)) else (walk_Parts.l2 k x5 x8 x9 x11 x63 x64)
end
def walk_Parts.f (k : Nat) (a0_0 : Int) (l0_1 : List (S45)) : Option (List Int × Int) := (graph_Check.f k a0_0 l0_1).bind fun bt125 => (if bt125.1 = 0 then (if 0 ≤ a0_0 then (if (a0_0 : Int).toNat ≤ 11728124029610 then (walk_Parts.l0 k (List.replicate (a0_0 : Int).toNat []) l0_1 (l0_1.length : Int) 0 a0_0 l0_1) else (none)) else (none)) else (some (([] : List Int), bt125.1)))
theorem walk_Parts.mono_l : ∀ k, (∀ y0 y1 y2 y3 y4 y5, LeO (walk_Parts.l0 k y0 y1 y2 y3 y4 y5) (walk_Parts.l0 (k + 1) y0 y1 y2 y3 y4 y5)) ∧ (∀ y0 y1 y2 y3 y4, LeO (walk_Parts.l1 k y0 y1 y2 y3 y4) (walk_Parts.l1 (k + 1) y0 y1 y2 y3 y4)) ∧ (∀ y0 y1 y2 y3 y4 y5, LeO (walk_Parts.l2 k y0 y1 y2 y3 y4 y5) (walk_Parts.l2 (k + 1) y0 y1 y2 y3 y4 y5)) ∧ (∀ y0 y1 y2 y3 y4 y5 y6 y7 y8, LeO (walk_Parts.l3 k y0 y1 y2 y3 y4 y5 y6 y7 y8) (walk_Parts.l3 (k + 1) y0 y1 y2 y3 y4 y5 y6 y7 y8))
  | 0 => ⟨fun _ _ _ _ _ _ r h => by simp [walk_Parts.l0] at h, fun _ _ _ _ _ r h => by simp [walk_Parts.l1] at h, fun _ _ _ _ _ _ r h => by simp [walk_Parts.l2] at h, fun _ _ _ _ _ _ _ _ _ r h => by simp [walk_Parts.l3] at h⟩
  | k + 1 => by
    obtain ⟨ih0, ih1, ih2, ih3⟩ := walk_Parts.mono_l k
    refine ⟨?_, ?_, ?_, ?_⟩
    · intro y0 y1 y2 y3 y4 y5
      unfold walk_Parts.l0
      repeat' first
      | (with_reducible exact ih0 _ _ _ _ _ _)
      | (with_reducible exact ih1 _ _ _ _ _)
      | (with_reducible exact ih2 _ _ _ _ _ _)
      | (with_reducible exact ih3 _ _ _ _ _ _ _ _ _)
      | (with_reducible exact graph_Check.mono _ _ _)
      | (with_reducible exact walk_filled.mono _ _ _)
      | (with_reducible exact LeO.refl _)
      | (with_reducible exact LeO.none _)
      | (with_reducible refine LeO.ite ?_ ?_)
      | (with_reducible refine LeO.bind ?_ (fun _ => ?_))
      | exact ih0 _ _ _ _ _ _
      | exact ih1 _ _ _ _ _
      | exact ih2 _ _ _ _ _ _
      | exact ih3 _ _ _ _ _ _ _ _ _
      | exact graph_Check.mono _ _ _
      | exact walk_filled.mono _ _ _
      | exact LeO.none _
      | refine LeO.ite ?_ ?_
      | refine LeO.bind ?_ (fun _ => ?_)
    · intro y0 y1 y2 y3 y4
      unfold walk_Parts.l1
      repeat' first
      | (with_reducible exact ih0 _ _ _ _ _ _)
      | (with_reducible exact ih1 _ _ _ _ _)
      | (with_reducible exact ih2 _ _ _ _ _ _)
      | (with_reducible exact ih3 _ _ _ _ _ _ _ _ _)
      | (with_reducible exact graph_Check.mono _ _ _)
      | (with_reducible exact walk_filled.mono _ _ _)
      | (with_reducible exact LeO.refl _)
      | (with_reducible exact LeO.none _)
      | (with_reducible refine LeO.ite ?_ ?_)
      | (with_reducible refine LeO.bind ?_ (fun _ => ?_))
      | exact ih0 _ _ _ _ _ _
      | exact ih1 _ _ _ _ _
      | exact ih2 _ _ _ _ _ _
      | exact ih3 _ _ _ _ _ _ _ _ _
      | exact graph_Check.mono _ _ _
      | exact walk_filled.mono _ _ _
      | exact LeO.none _
      | refine LeO.ite ?_ ?_
      | refine LeO.bind ?_ (fun _ => ?_)
    · intro y0 y1 y2 y3 y4 y5
      unfold walk_Parts.l2
      repeat' first
      | (with_reducible exact ih0 _ _ _ _ _ _)
      | (with_reducible exact ih1 _ _ _ _ _)
      | (with_reducible exact ih2 _ _ _ _ _ _)
      | (with_reducible exact ih3 _ _ _ _ _ _ _ _ _)
      | (with_reducible exact graph_Check.mono _ _ _)
      | (with_reducible exact walk_filled.mono _ _ _)
      | (with_reducible exact LeO.refl _)
      | (with_reducible exact LeO.none _)
      | (with_reducible refine LeO.ite ?_ ?_)
      | (with_reducible refine LeO.bind ?_ (fun _ => ?_))
      | exact ih0 _ _ _ _ _ _
      | exact ih1 _ _ _ _ _
      | exact ih2 _ _ _ _ _ _
      | exact ih3 _ _ _ _ _ _ _ _ _
      | exact graph_Check.mono _ _ _
      | exact walk_filled.mono _ _ _
      | exact LeO.none _
      | refine LeO.ite ?_ ?_
      | refine LeO.bind ?_ (fun _ => ?_)
    · intro y0 y1 y2 y3 y4 y5 y6 y7 y8
      unfold walk_Parts.l3
      repeat' first
      | (with_reducible exact ih0 _ _ _ _ _ _)
      | (with_reducible exact ih1 _ _ _ _ _)
      | (with_reducible exact ih2 _ _ _ _ _ _)
      | (with_reducible exact ih3 _ _ _ _ _ _ _ _ _)
      | (with_reducible exact graph_Check.mono _ _ _)
      | (with_reducible exact walk_filled.mono _ _ _)
      | (with_reducible exact LeO.refl _)
      | (with_reducible exact LeO.none _)
      | (with_reducible refine LeO.ite ?_ ?_)
      | (with_reducible refine LeO.bind ?_ (fun _ => ?_))
      | exact ih0 _ _ _ _ _ _
      | exact ih1 _ _ _ _ _
      | exact ih2 _ _ _ _ _ _
      | exact ih3 _ _ _ _ _ _ _ _ _
      | exact graph_Check.mono _ _ _
      | exact walk_filled.mono _ _ _
      | exact LeO.none _
      | refine LeO.ite ?_ ?_
      | refine LeO.bind ?_ (fun _ => ?_)
theorem walk_Parts.mono : ∀ a0 a1 k, LeO (walk_Parts.f k a0 a1) (walk_Parts.f (k + 1) a0 a1) := by
  intro a0 a1 k
  obtain ⟨ih0, ih1, ih2, ih3⟩ := walk_Parts.mono_l k
  unfold walk_Parts.f
  repeat' first
      | (with_reducible exact ih0 _ _ _ _ _ _)
      | (with_reducible exact ih1 _ _ _ _ _)
      | (with_reducible exact ih2 _ _ _ _ _ _)
      | (with_reducible exact ih3 _ _ _ _ _ _ _ _ _)
      | (with_reducible exact graph_Check.mono _ _ _)
      | (with_reducible exact walk_filled.mono _ _ _)
      | (with_reducible exact LeO.refl _)
      | (with_reducible exact LeO.none _)
      | (with_reducible refine LeO.ite ?_ ?_)
      | (with_reducible refine LeO.bind ?_ (fun _ => ?_))
      | exact ih0 _ _ _ _ _ _
      | exact ih1 _ _ _ _ _
      | exact ih2 _ _ _ _ _ _
      | exact ih3 _ _ _ _ _ _ _ _ _
      | exact graph_Check.mono _ _ _
      | exact walk_filled.mono _ _ _
      | exact LeO.none _
      | refine LeO.ite ?_ ?_
      | refine LeO.bind ?_ (fun _ => ?_)
def walk_Parts.T8 : Bool × List (List Nat × List Nat) := (true, [([], []), ([], []), ([1], [1]), ([], []), ([], []), ([4], [4]), ([3, 5], [3, 5]), ([6], [6]), ([], []), ([8], [8]), ([9], [9]), ([7, 10], [7, 10]), ([0, 2, 0, 1, 2, 3, 4, 5, 6, 7, 8, 9, 10, 11], [0, 2]), ([12, 11, 11, 0, 1, 2, 3, 4, 5, 6, 7, 8, 9, 10, 11], [11, 12])])
def walk_Parts.B8 : List Nat := [0, 0, 2, 0, 0, 16, 56, 120, 0, 256, 768, 2040, 4095, 8191]
theorem walk_Parts.tab8 : rtab .any (opsOf Try.f31 8) = walk_Parts.T8 := by kernel_rfl
theorem walk_Parts.bits8 : waitsOk walk_Parts.T8.2 walk_Parts.B8 = true := by kernel_rfl
def walk_Parts.T9 : Bool × List (List Nat × List Nat) := (true, [([], []), ([], []), ([1], [1]), ([], []), ([], []), ([4], [4]), ([3, 5], [3, 5]), ([6], [6]), ([], []), ([8], [8]), ([9], [9]), ([7, 10], [7, 10]), ([0, 2, 0, 1, 2, 3, 4, 5, 6, 7, 8, 9, 10, 11], [0, 2]), ([12, 11, 11, 0, 1, 2, 3, 4, 5, 6, 7, 8, 9, 10, 11], [11, 12])])
def walk_Parts.B9 : List Nat := [0, 0, 2, 0, 0, 16, 56, 120, 0, 256, 768, 2040, 4095, 8191]
theorem walk_Parts.tab9 : rtab .any (opsOf Try.f31 9) = walk_Parts.T9 := by kernel_rfl
theorem walk_Parts.bits9 : waitsOk walk_Parts.T9.2 walk_Parts.B9 = true := by kernel_rfl
set_option maxHeartbeats 8000000 in
set_option maxRecDepth 100000 in
theorem walk_Parts.calls (k : Nat) (a0_0 : Int) (A0_1 : Option Addr) (c0_1 : Nat) (l0_1 : List (S45)) (r1 : List Int) (r2 : Int) (w : World) (hr0_1 : Kd.C k45 w A0_1 l0_1.length l0_1) (hc0_1 : l0_1.length ≤ c0_1) (h : walk_Parts.f k a0_0 l0_1 = some (r1, r2)) :
    Calls Try.prog 31 #[.agg #[.int .i64 a0_0, .slice A0_1 l0_1.length c0_1]] w fun e w' => ∃ v0_ : Value, e = .returned (.tuple #[v0_, .int .i64 r2]) ∧ Kd.R (Kd.int .i64) 3 w' w.heap.size (fun _ => True) v0_ r1 ∧ Below w.heap.size w w' := by
 have hu24 := Try.underlying24; have hu53 := Try.underlying53; have hu45 := Try.underlying45; have HR0_1 := ak hr0_1; have HC0_1 := ak hc0_1; clear hr0_1 hc0_1; have HB := ak (Below.refl w.heap.size w); have H : ((graph_Check.f k a0_0 l0_1).bind fun bt125 => (if bt125.1 = 0 then (if 0 ≤ a0_0 then (if (a0_0 : Int).toNat ≤ 11728124029610 then (walk_Parts.l0 k (List.replicate (a0_0 : Int).toNat []) l0_1 (l0_1.length : Int) 0 a0_0 l0_1) else (none)) else (none)) else (some (([] : List Int), bt125.1)))) = some (r1, r2) := h; clear h; replace H := Option.bind_eq_some_iff.mp H; obtain ⟨⟨t125, t126⟩, A20, H⟩ := H; replace H : (if t125 = 0 then (if 0 ≤ a0_0 then (if (a0_0 : Int).toNat ≤ 11728124029610 then (walk_Parts.l0 k (List.replicate (a0_0 : Int).toNat []) l0_1 (l0_1.length : Int) 0 a0_0 l0_1) else (none)) else (none)) else (some (([] : List Int), t125))) = some (r1, r2) := H; have A2 := ak A20; clear A20
 by_cases c3 : t125 = 0
 ·
  rw [if_pos c3] at H; have c3b0 : (t125 == 0) = true := beq_iff_eq.mpr c3; have c3b1 : (t125 != 0) = false := bne_eq_false_iff_eq.mpr c3; clear c3; replace H := ife H; obtain ⟨c4b0, c4b1, H⟩ := H; replace H := ife H; obtain ⟨c5b0, c5b1, H⟩ := H; obtain ⟨y128, hy128⟩ : ∃ y_ : List (List Int), y_ = (List.replicate (a0_0 : Int).toNat []) := ⟨_, rfl⟩; rw [← hy128] at H; have Ny128 := ak hy128; clear hy128; have H' := ak H; clear H
  go_enter Try.func31, Try.ntmps31
  go_wp2_with (first | ((with_reducible refine gate_dst (N := 1) rfl ?_); refine box_event ?hg (N := 1) ?hd (cs := #[.int .i64 a0_0, .slice A0_1 l0_1.length c0_1]) (t := 24) ?hr ?_; (case hd => rfl); (case hg => rfl); (case hr => first | (go_simp; done) | (go_simp; rfl)); intro gb124 hg w6 hbox hb; have n_ := a4 (below_step lb hb) hbox (gw w hg) (gw w hg); clear HB; obtain ⟨HB, BK124, GW124, GE124⟩ := n_; clear hb hbox hg; have hcz7_0 := bc0 BK124; have hcz7_1 := bc1 BK124; have hfz7_0 := bf BK124 0; have hfz7_1 := bf BK124 1) | ((with_reducible refine gate_callee (f := 20) rfl ?_); refine goesZ (some 16) rfl rfl Try.func20 (by kernel_rfl) rfl #[.agg #[.int .i64 a0_0, .slice A0_1 l0_1.length c0_1]] rfl ?_; (with_reducible refine (graph_Check.calls k a0_0 _ _ l0_1 t125 t126 _ ?side1 ?side2 A2.out).mono ?_); (case side1 => exact Kd.C_below HR0_1.out lb); (case side2 => exact HC0_1.out); rintro e w8 ⟨rfl, hb⟩; refine ⟨_, rfl, ?_⟩; have n_ := a2 (blk_below (bx BK124.out) hb) (below_step lb hb); clear BK124 HB; obtain ⟨BK124, HB⟩ := n_; (try clear hb); (try clear hb2); (try clear hk); (try clear hi)) | ((with_reducible refine gate_dst (N := 4) rfl ?_); refine box_event ?hg (N := 4) ?hd (cs := #[.int .i64 0, .int .i64 0]) (t := 53) ?hr ?_; (case hd => rfl); (case hg => rfl); (case hr => first | (go_simp; done) | (go_simp; rfl)); intro gb127 hg w9 hbox hb; have n_ := a7 (blk_below (bx BK124.out) hb) (below_step lb hb) hbox (gw w hg) (gw w hg) (nl hg BK124) (nr hg BK124); clear BK124 HB; obtain ⟨BK124, HB, BK127, GW127, GE127, NB124_127, NB127_124⟩ := n_; clear hb hbox hg; have hnb10 := NB127_124.out; have hnc10 := NB124_127.out; have hcz11_0 := bc0 BK127; have hcz11_1 := bc1 BK127; have hfz11_0 := bf BK127 0; have hfz11_1 := bf BK127 1; have hcz12_0 := bc0 BK124; have hcz12_1 := bc1 BK124; have hfz12_0 := bf BK124 0; have hfz12_1 := bf BK124 1) | ((with_reducible refine gate_dst (N := 24) rfl ?_); refine Kd.S_make (Kd.slice 3 (Kd.int .i64)) _ 62 rfl (N := 24) rfl 76 _ _ rfl a0_0 rfl rfl Try.underlying76 (.slice none 0 0) 24 info62 rfl (by decide) (by omega) [] (ok := fun _ => True) (okp := fun _ => True) ⟨_, rfl, Kd.R_nil _ _ _ _ _⟩ (fun _ hk => hk) trivial (oda) (Nat.le_trans (Nat.mul_le_mul_right _ (oda : a0_0.toNat ≤ 11728124029610)) (by omega)) (Below.refl _ _) (Nat.le_refl _) ?_; intro v129 w13 ho14 hb hg_ hnew_; clear hg_ hnew_; (first | rw [← Ny128.out] at ho14 | (simp only [Int.reduceToNat] at ho14; rw [← Ny128.out] at ho14)); have n_ := a4 (Kd.S_lower ho14 (below_size lb)) (blk_below (g := gb124) (o := .cells #[.int .i64 a0_0, .slice A0_1 l0_1.length c0_1] 24 (0, 0)) (by (with_reducible repeat (first | refine blk_drewN ?_ _ | refine blk_drew ?_ | refine blk_alloc ?_ _)); refine blk_far ?_ NB124_127.out _; (with_reducible repeat (first | refine blk_drewN ?_ _ | refine blk_drew ?_ | refine blk_alloc ?_ _)); refine blk_far ?_ NB124_127.out _; exact bx BK124.out) hb) (blk_below (g := gb127) (o := .cells #[.int .i64 t125, .int .i64 t126] 53 (0, 0)) (by (with_reducible repeat (first | refine blk_drewN ?_ _ | refine blk_drew ?_ | refine blk_alloc ?_ _)); refine blk_put (cs := #[.int .i64 t125, .int .i64 0]) ?_ 1 _ rfl; (with_reducible repeat (first | refine blk_drewN ?_ _ | refine blk_drew ?_ | refine blk_alloc ?_ _)); refine blk_put (cs := #[.int .i64 0, .int .i64 0]) ?_ 0 _ rfl; exact bx BK127.out) hb) (below_step lb hb); clear BK124 BK127 HB; obtain ⟨HO130, BK124, BK127, HB⟩ := n_; clear hb ho14; have hcz15_0 := bc0 BK124; have hcz15_1 := bc1 BK124; have hfz15_0 := bf BK124 0; have hfz15_1 := bf BK124 1))
  go_loopg [28] k (fun kq v28 w' => ∃ (x5_1 : List (List Int)) (x28_1 : Int), v28 = .int .i64 x28_1 ∧ Aside0 (walk_Parts.l0 kq x5_1 l0_1 (l0_1.length : Int) x28_1 a0_0 l0_1 = some (r1, r2)) ∧ Aside0 (kq ≤ k) ∧ Aside0 (Kd.S (Kd.slice 3 (Kd.int .i64)) 62 w' w.heap.size (fun _ => True) v129 x5_1) ∧ Aside0 (w'.heap[gb124]? = some (.cells #[.int .i64 a0_0, (.slice A0_1 l0_1.length c0_1)] 24 (0, 0))) ∧ Aside0 (w'.heap[gb127]? = some (.cells #[.int .i64 t125, .int .i64 t126] 53 (0, 0))) ∧ Aside0 (Below w.heap.size w w'))
  case atStart => exact ⟨(y128), (0), (by first | rfl | (simp [*]; done)), H', ⟨Nat.le_refl _⟩, ⟨sx HO130.out⟩, ⟨bx BK124.out⟩, ⟨bx BK127.out⟩, ⟨lb⟩⟩
  case round =>
   clear H'; obtain ⟨x5_1, x28_1, rfl, HA, HK1, HO_5, BK124, BK127, HB⟩ := hrel
   cases gk with
   | zero => exact absurd HA.out (by simp [walk_Parts.l0])
   | succ k1 =>
    have H := HA.out; clear HA
    simp only [walk_Parts.l0] at H
    by_cases c16 : x28_1 < (l0_1.length : Int)
    ·
     rw [if_pos c16] at H; have c16b0 := decide_eq_true c16; clear c16; replace H := ifd H; obtain ⟨c17b0, H⟩ := H; replace H := ifd H; obtain ⟨c18b0, H⟩ := H; replace H := ifd H; obtain ⟨c19b0, H⟩ := H; replace H := ifd H; obtain ⟨c20b0, H⟩ := H; replace H := ifn H; obtain ⟨c21, H⟩ := H; have LMc21 := ak c21; clear c21; obtain ⟨y134, hy134⟩ : ∃ y_ : List Int, y_ = ((rd_L2 x5_1 ((rd_T45 l0_1 x28_1).f0)) ++ [(rd_T45 l0_1 x28_1).f1]) := ⟨_, rfl⟩; rw [← hy134] at H; have Ny134 := ak hy134; clear hy134; obtain ⟨y137, hy137⟩ : ∃ y_ : List (List Int), y_ = (x5_1.set (((rd_T45 l0_1 x28_1).f0) : Int).toNat y134) := ⟨_, rfl⟩; replace H := bs hy137 H; have Ny137 := ak hy137; clear hy137; replace H := ifd H; obtain ⟨c23b0, H⟩ := H; replace H := ifd H; obtain ⟨c24b0, H⟩ := H; replace H := ifn H; obtain ⟨c25, H⟩ := H; have LMc25 := ak c25; clear c25; obtain ⟨y139, hy139⟩ : ∃ y_ : List Int, y_ = ((rd_L2 y137 ((rd_T45 l0_1 x28_1).f1)) ++ [(rd_T45 l0_1 x28_1).f0]) := ⟨_, rfl⟩; rw [← hy139] at H; have Ny139 := ak hy139; clear hy139; obtain ⟨y142, hy142⟩ : ∃ y_ : List (List Int), y_ = (y137.set (((rd_T45 l0_1 x28_1).f1) : Int).toNat y139) := ⟨_, rfl⟩; rw [← hy142] at H; have Ny142 := ak hy142; clear hy142; have H' := ak H; clear H; have p131 : 0 ≤ (x28_1 : Int) := oda; have q131 : x28_1 < (l0_1.length : Int) := oda; obtain ⟨ad131, e131, hx131_0, hx131_1, hx131_2, hx131_3⟩ := at_T45 HR0_1.out x28_1 p131 q131; cases e131
     (try replace hx131_0 := hbc HB hx131_0)
     (try replace hx131_1 := hbc HB hx131_1)
     (try replace hx131_2 := hbc HB hx131_2)
     (try replace hx131_3 := hbc HB hx131_3)
     replace p131 := eq_true p131; replace q131 := eq_true q131
     try go_wp2_with (first | ((with_reducible refine gate_dst (N := 7) rfl ?_); refine box_event ?hg (N := 7) ?hd (cs := #[.int .i64 0, .int .i64 0, .int .i64 0, .int .i64 0]) (t := 45) ?hr ?_; (case hd => rfl); (case hg => rfl); (case hr => first | (go_simp; done) | (go_simp; rfl)); intro gb132 hg w27 hbox hb; have n_ := a11 (Kd.S_below (sx HO_5.out) hb) (blk_below (bx BK124.out) hb) (blk_below (bx BK127.out) hb) (below_step lb hb) hbox (gw w hg) (gw w hg) (nl hg BK124) (nr hg BK124) (nl hg BK127) (nr hg BK127); clear HO_5 BK124 BK127 HB; obtain ⟨HO_5, BK124, BK127, HB, BK132, GW132, GE132, NB124_132, NB132_124, NB127_132, NB132_127⟩ := n_; clear hb hbox hg; have hnb28 := NB132_124.out; have hnc28 := NB124_132.out; have hnb29 := NB132_127.out; have hnc29 := NB127_132.out; have hcz30_0 := bc0 BK132; have hcz30_1 := bc1 BK132; have hcz30_2 := bc2 BK132; have hcz30_3 := bc3 BK132; have hfz30_0 := bf BK132 0; have hfz30_1 := bf BK132 1; have hfz30_2 := bf BK132 2; have hfz30_3 := bf BK132 3))
     have n0_ : Aside0 (Kd.S (Kd.slice 3 (Kd.int .i64)) 62 ((((w27.setCell ⟨gb132, 0, none⟩ (.int .i64 ((rd_T45 l0_1 x28_1).f0))).setCell ⟨gb132, 1, none⟩ (.int .i64 ((rd_T45 l0_1 x28_1).f1))).setCell ⟨gb132, 2, none⟩ (.int .i64 ((rd_T45 l0_1 x28_1).f2))).setCell ⟨gb132, 3, none⟩ (.int .i64 ((rd_T45 l0_1 x28_1).f3))) w.heap.size (fun _ => True) v129 x5_1) := ⟨by exact sx (Kd.S_mono (Kd.S_far (p := ⟨gb132, 3, none⟩) (Kd.S_far (p := ⟨gb132, 2, none⟩) (Kd.S_far (p := ⟨gb132, 1, none⟩) (Kd.S_far (p := ⟨gb132, 0, none⟩) (Kd.S_types HO_5.out BK132.out (by decide)) (fun _ hk => hk.2) (.int .i64 ((rd_T45 l0_1 x28_1).f0))) (fun _ hk => hk.2) (.int .i64 ((rd_T45 l0_1 x28_1).f1))) (fun _ hk => hk.2) (.int .i64 ((rd_T45 l0_1 x28_1).f2))) (fun _ hk => hk.2) (.int .i64 ((rd_T45 l0_1 x28_1).f3))) (fun _ hk => trivial))⟩
     have n1_ : Aside0 (((((w27.setCell ⟨gb132, 0, none⟩ (.int .i64 ((rd_T45 l0_1 x28_1).f0))).setCell ⟨gb132, 1, none⟩ (.int .i64 ((rd_T45 l0_1 x28_1).f1))).setCell ⟨gb132, 2, none⟩ (.int .i64 ((rd_T45 l0_1 x28_1).f2))).setCell ⟨gb132, 3, none⟩ (.int .i64 ((rd_T45 l0_1 x28_1).f3))).heap[gb124]? = some (.cells #[.int .i64 a0_0, .slice (some ad131) l0_1.length c0_1] 24 (0, 0))) := ⟨by (with_reducible repeat (first | refine blk_drewN ?_ _ | refine blk_drew ?_ | refine blk_alloc ?_ _)); refine blk_far ?_ NB124_132.out _; (with_reducible repeat (first | refine blk_drewN ?_ _ | refine blk_drew ?_ | refine blk_alloc ?_ _)); refine blk_far ?_ NB124_132.out _; (with_reducible repeat (first | refine blk_drewN ?_ _ | refine blk_drew ?_ | refine blk_alloc ?_ _)); refine blk_far ?_ NB124_132.out _; (with_reducible repeat (first | refine blk_drewN ?_ _ | refine blk_drew ?_ | refine blk_alloc ?_ _)); refine blk_far ?_ NB124_132.out _; exact bx BK124.out⟩
     have n2_ : Aside0 (((((w27.setCell ⟨gb132, 0, none⟩ (.int .i64 ((rd_T45 l0_1 x28_1).f0))).setCell ⟨gb132, 1, none⟩ (.int .i64 ((rd_T45 l0_1 x28_1).f1))).setCell ⟨gb132, 2, none⟩ (.int .i64 ((rd_T45 l0_1 x28_1).f2))).setCell ⟨gb132, 3, none⟩ (.int .i64 ((rd_T45 l0_1 x28_1).f3))).heap[gb127]? = some (.cells #[.int .i64 t125, .int .i64 t126] 53 (0, 0))) := ⟨by (with_reducible repeat (first | refine blk_drewN ?_ _ | refine blk_drew ?_ | refine blk_alloc ?_ _)); refine blk_far ?_ NB127_132.out _; (with_reducible repeat (first | refine blk_drewN ?_ _ | refine blk_drew ?_ | refine blk_alloc ?_ _)); refine blk_far ?_ NB127_132.out _; (with_reducible repeat (first | refine blk_drewN ?_ _ | refine blk_drew ?_ | refine blk_alloc ?_ _)); refine blk_far ?_ NB127_132.out _; (with_reducible repeat (first | refine blk_drewN ?_ _ | refine blk_drew ?_ | refine blk_alloc ?_ _)); refine blk_far ?_ NB127_132.out _; exact bx BK127.out⟩
     have n3_ : Aside0 (((((w27.setCell ⟨gb132, 0, none⟩ (.int .i64 ((rd_T45 l0_1 x28_1).f0))).setCell ⟨gb132, 1, none⟩ (.int .i64 ((rd_T45 l0_1 x28_1).f1))).setCell ⟨gb132, 2, none⟩ (.int .i64 ((rd_T45 l0_1 x28_1).f2))).setCell ⟨gb132, 3, none⟩ (.int .i64 ((rd_T45 l0_1 x28_1).f3))).heap[gb132]? = some (.cells #[.int .i64 ((rd_T45 l0_1 x28_1).f0), .int .i64 ((rd_T45 l0_1 x28_1).f1), .int .i64 ((rd_T45 l0_1 x28_1).f2), .int .i64 ((rd_T45 l0_1 x28_1).f3)] 45 (0, 0))) := ⟨by (with_reducible repeat (first | refine blk_drewN ?_ _ | refine blk_drew ?_ | refine blk_alloc ?_ _)); refine blk_put (cs := #[.int .i64 ((rd_T45 l0_1 x28_1).f0), .int .i64 ((rd_T45 l0_1 x28_1).f1), .int .i64 ((rd_T45 l0_1 x28_1).f2), .int .i64 0]) ?_ 3 _ rfl; (with_reducible repeat (first | refine blk_drewN ?_ _ | refine blk_drew ?_ | refine blk_alloc ?_ _)); refine blk_put (cs := #[.int .i64 ((rd_T45 l0_1 x28_1).f0), .int .i64 ((rd_T45 l0_1 x28_1).f1), .int .i64 0, .int .i64 0]) ?_ 2 _ rfl; (with_reducible repeat (first | refine blk_drewN ?_ _ | refine blk_drew ?_ | refine blk_alloc ?_ _)); refine blk_put (cs := #[.int .i64 ((rd_T45 l0_1 x28_1).f0), .int .i64 0, .int .i64 0, .int .i64 0]) ?_ 1 _ rfl; (with_reducible repeat (first | refine blk_drewN ?_ _ | refine blk_drew ?_ | refine blk_alloc ?_ _)); refine blk_put (cs := #[.int .i64 0, .int .i64 0, .int .i64 0, .int .i64 0]) ?_ 0 _ rfl; exact bx BK132.out⟩
     have n4_ : Aside0 (Below w.heap.size w ((((w27.setCell ⟨gb132, 0, none⟩ (.int .i64 ((rd_T45 l0_1 x28_1).f0))).setCell ⟨gb132, 1, none⟩ (.int .i64 ((rd_T45 l0_1 x28_1).f1))).setCell ⟨gb132, 2, none⟩ (.int .i64 ((rd_T45 l0_1 x28_1).f2))).setCell ⟨gb132, 3, none⟩ (.int .i64 ((rd_T45 l0_1 x28_1).f3)))) := ⟨lb⟩
     (try clear HO_5)
     (try clear BK124)
     (try clear BK127)
     (try clear BK132)
     (try clear HB)
     generalize ((((w27.setCell ⟨gb132, 0, none⟩ (.int .i64 ((rd_T45 l0_1 x28_1).f0))).setCell ⟨gb132, 1, none⟩ (.int .i64 ((rd_T45 l0_1 x28_1).f1))).setCell ⟨gb132, 2, none⟩ (.int .i64 ((rd_T45 l0_1 x28_1).f2))).setCell ⟨gb132, 3, none⟩ (.int .i64 ((rd_T45 l0_1 x28_1).f3))) = w31 at n0_ n1_ n2_ n3_ n4_ ⊢
     have HO_5 := n0_; have BK124 := n1_; have BK127 := n2_; have BK132 := n3_; have HB := n4_; clear n0_ n1_ n2_ n3_ n4_; have n_ := a5 (Kd.S_drew HO_5.out) (blk_drew BK124.out) (blk_drew BK127.out) (blk_drew BK132.out) (below_drew1 HB.out); clear HO_5 BK124 BK127 BK132 HB; obtain ⟨HO_5, BK124, BK127, BK132, HB⟩ := n_; obtain ⟨Ao33, co33, eo33⟩ := Kd.S_slice HO_5.out
     (first | subst eo33 | (injection eo33 with f1_ f2_ f3_; have f4_ := f1_.symm; have f5_ := f3_.symm; clear f1_ f2_ f3_; subst f4_; subst f5_))
     have p133 : 0 ≤ (((rd_T45 l0_1 x28_1).f0) : Int) := oda; have q133 : ((rd_T45 l0_1 x28_1).f0) < (x5_1.length : Int) := oda; obtain ⟨ad133, A133_0, c133_0, e133, hx133_0, hl133_0, hi133_0⟩ := at_L2 (Kd.S_reads' HO_5.out).2.2 ((rd_T45 l0_1 x28_1).f0) p133 q133; cases e133
     obtain ⟨ce133, hce133, hMe133, hcc133⟩ := Kd.S_get HO_5.out [] ((rd_T45 l0_1 x28_1).f0) p133 (by first | exact q133 | exact oda | (have e_ := (Kd.S_reads' HO_5.out).1; omega))
     obtain ⟨ve133_0, rfl, ge133_0⟩ := hMe133; have hv133_0 := hcc133 0 _ rfl; rw [Nat.add_zero, show ((Kd.slice 3 (Kd.int .i64))).sz = 1 from rfl, Nat.mul_one] at hv133_0; replace hv133_0 := Option.some.inj (hv133_0.symm.trans hx133_0); rw [hv133_0] at ge133_0; have HL133_0 := ak (show Kd.R (Kd.int .i64) 3 _ _ _ _ (rd_L2 x5_1 ((rd_T45 l0_1 x28_1).f0)) from ge133_0); clear hv133_0 ge133_0; have HX133_0 := ak hx133_0; clear hcc133 hce133; have HR133_0 := ak hi133_0; have HC133_0 := ak hl133_0; clear hi133_0 hl133_0; replace p133 := eq_true p133; replace q133 := eq_true q133
     obtain ⟨go34, co34, eo34, gb34, gl34, cl34, HG34⟩ := Kd.S_form HO_5.out (by have h_ : (((rd_T45 l0_1 x28_1).f0) : Int) < ((x5_1.length : Int) : Int) := oda; have h2_ : 0 ≤ (((rd_T45 l0_1 x28_1).f0) : Int) := (oda); omega)
     (first | cases eo34 | (injection eo34 with ea_ en_ ec_; (first | subst ea_ | (injection ea_ with ea_; subst ea_)); subst ec_; clear en_))
     have GB34 := ak gb34; have GG34 := ak HG34; clear gb34 gl34 HG34
     (first | simp only [add_plain] at hx133_0 | skip)
     obtain ⟨oki34, ce34, hcl34, hM34, hcc34, _, _, hH34⟩ := Kd.S_elem HO_5.out [] (((rd_T45 l0_1 x28_1).f0) : Int) (oda) (by have h_ : (((rd_T45 l0_1 x28_1).f0) : Int) < ((x5_1.length : Int) : Int) := oda; first | exact h_ | (have e_ := (Kd.S_reads' HO_5.out).1; omega) | simpa using h_)
     obtain ⟨ve34_0, rfl, ge34_0⟩ := hM34; have hv34 := hcc34 0 _ rfl; have hX34 := HX133_0.out
     (try simp only [add_plain] at hX34)
     (try simp only [Nat.add_zero] at hv34)
     (try rw [show ((Kd.slice 3 (Kd.int .i64))).sz = 1 from rfl, Nat.mul_one] at hv34)
     replace hv34 := Option.some.inj (hv34.symm.trans hX34); subst hv34; clear hX34 hcc34 hcl34; have UU34 := ak (show Kd.R (Kd.int .i64) 3 _ w.heap.size oki34 (.slice A133_0 (rd_L2 x5_1 ((rd_T45 l0_1 x28_1).f0)).length c133_0) (rd_L2 x5_1 ((rd_T45 l0_1 x28_1).f0)) from ge34_0); have HH34 := ak hH34; have HN34 := ak (Kd.S_reads' HO_5.out).1; clear hH34 ge34_0
     refine start_ (n := 14) (S := fun w' => w'.cell? ⟨gb132, 0, none⟩ = some (.int .i64 ((rd_T45 l0_1 x28_1).f0)) ∧ w'.cell? ⟨gb132, 1, none⟩ = some (.int .i64 ((rd_T45 l0_1 x28_1).f1)) ∧ w'.cell? ⟨gb132, 2, none⟩ = some (.int .i64 ((rd_T45 l0_1 x28_1).f2)) ∧ w'.cell? ⟨gb132, 3, none⟩ = some (.int .i64 ((rd_T45 l0_1 x28_1).f3)) ∧ w'.cell? ⟨go34, (((rd_T45 l0_1 x28_1).f0)).toNat, none⟩ = some (.slice A133_0 (rd_L2 x5_1 ((rd_T45 l0_1 x28_1).f0)).length c133_0)) (ds := [13]) #[F, F, F, F, F, F, F, F, F, F, F, F, F, F] (by kernel_rfl) rfl rfl ⟨(blk_cell BK132.out 0).trans rfl, (blk_cell BK132.out 1).trans rfl, (blk_cell BK132.out 2).trans rfl, (blk_cell BK132.out 3).trans rfl, hx133_0⟩ (fun hHeld => ?_); refine with_tabW walk_Parts.tab8 walk_Parts.bits8 (fun HT_ HW_ => ?_)
     generalize w31.drew = w32 at HO_5 BK124 BK127 BK132 HB GG34 HH34 HL133_0 HR133_0 HX133_0 UU34 hx133_0 hHeld ⊢
     refine pure_ (i := 0) (N := some 32) (v := ?_) (a' := ?_) #[T, F, F, F, F, F, F, F, F, F, F, F, F, F] rfl rfl (any_of HT_.out (by kernel_rfl)) (fun _ _ _ h => h) (Or.inl ⟨by rfl, ?_⟩) ?_ ?_; rotate_left; intro w'; go_simp; with_reducible rfl; rotate_left; simp only [Act.put, sA, sZ, sS, i64_w, i32_w]; rfl
     refine pure_ (i := 1) (N := some 33) (v := ?_) (a' := ?_) #[T, T, F, F, F, F, F, F, F, F, F, F, F, F] rfl rfl (any_of HT_.out (by kernel_rfl)) (fun _ _ _ h => h) (Or.inl ⟨by rfl, ?_⟩) ?_ ?_; rotate_left; intro w'; go_simp; with_reducible rfl; rotate_left; simp only [Act.put, sA, sZ, sS, i64_w, i32_w]; rfl
     refine pure_ (i := 3) (N := some 35) (v := ?_) (a' := ?_) #[T, T, F, T, F, F, F, F, F, F, F, F, F, F] rfl rfl (any_of HT_.out (by kernel_rfl)) (fun _ _ _ h => h) (Or.inl ⟨by rfl, ?_⟩) ?_ ?_; rotate_left; intro w'; go_simp; with_reducible rfl; rotate_left; simp only [Act.put, sA, sZ, sS, i64_w, i32_w]; rfl
     refine pure_ (i := 4) (N := some 36) (v := ?_) (a' := ?_) #[T, T, F, T, T, F, F, F, F, F, F, F, F, F] rfl rfl (any_of HT_.out (by kernel_rfl)) (fun _ _ _ h => h) (Or.inl ⟨by rfl, ?_⟩) ?_ ?_; rotate_left; intro w'; go_simp; with_reducible rfl; rotate_left; simp only [Act.put, sA, sZ, sS, i64_w, i32_w]; rfl
     refine pure_ (i := 8) (N := some 40) (v := ?_) (a' := ?_) #[T, T, F, T, T, F, F, F, T, F, F, F, F, F] rfl rfl (any_of HT_.out (by kernel_rfl)) (fun _ _ _ h => h) (Or.inl ⟨by rfl, ?_⟩) ?_ ?_; rotate_left; intro w'; go_simp; with_reducible rfl; rotate_left; simp only [Act.put, sA, sZ, sS, i64_w, i32_w]; rfl
     refine take_ (i := 2) (N := some 34) (v := ?_) (a' := ?_) #[T, T, T, T, T, F, F, F, T, F, F, F, F, F] rfl rfl (take_ofW HT_.out HW_.out (by kernel_rfl)) (fun _ _ _ h => h) (Or.inl ⟨by rfl, ?_⟩) hHeld ?_ ?_; rotate_left; rintro w' ⟨s0, s1, s2, s3, s4⟩; go_simp; with_reducible rfl; rotate_left; simp only [Act.put, sA, sZ, sS, i64_w, i32_w]; rfl
     refine take_ (i := 5) (N := some 37) (v := ?_) (a' := ?_) #[T, T, T, T, T, T, F, F, T, F, F, F, F, F] rfl rfl (take_ofW HT_.out HW_.out (by kernel_rfl)) (fun _ _ _ h => h) (Or.inl ⟨by rfl, ?_⟩) hHeld ?_ ?_; rotate_left; rintro w' ⟨s0, s1, s2, s3, s4⟩; go_simp; with_reducible rfl; rotate_left; simp only [Act.put, sA, sZ, sS, i64_w, i32_w]; rfl
     refine pure_ (i := 6) (N := some 38) (v := ?_) (a' := ?_) #[T, T, T, T, T, T, T, F, T, F, F, F, F, F] rfl rfl (any_of HT_.out (by kernel_rfl)) (fun _ _ _ h => h) (Or.inl ⟨by rfl, ?_⟩) ?_ ?_; rotate_left; intro w'; go_simp; with_reducible rfl; rotate_left; simp only [Act.put, sA, sZ, sS, i64_w, i32_w]; rfl
     refine take_ (i := 7) (N := some 39) (v := ?_) (a' := ?_) #[T, T, T, T, T, T, T, T, T, F, F, F, F, F] rfl rfl (take_ofW HT_.out HW_.out (by kernel_rfl)) (fun _ _ _ h => h) (Or.inl ⟨by rfl, ?_⟩) hHeld ?_ ?_; rotate_left; rintro w' ⟨s0, s1, s2, s3, s4⟩; go_simp; with_reducible rfl; rotate_left; simp only [Act.put, sA, sZ, sS, i64_w, i32_w]; rfl
     refine take_ (i := 9) (N := some 41) (v := ?_) (a' := ?_) #[T, T, T, T, T, T, T, T, T, T, F, F, F, F] rfl rfl (take_ofW HT_.out HW_.out (by kernel_rfl)) (fun _ _ _ h => h) (Or.inl ⟨by rfl, ?_⟩) hHeld ?_ ?_; rotate_left; rintro w' ⟨s0, s1, s2, s3, s4⟩; go_simp; with_reducible rfl; rotate_left; simp only [Act.put, sA, sZ, sS, i64_w, i32_w]; rfl
     refine one_ (i := 10) (N := some 42) #[T, T, T, T, T, T, T, T, T, T, T, F, F, F] rfl rfl (one_of HT_.out (by kernel_rfl)) (by decide) (fun K hK => ?_)
     refine value_ (w1 := ?_) (v := ?_) (by rfl) rfl ?_ ?_
     rotate_left 2
     ·
      go_simp
      constructor
      ·
       rfl
      ·
       rfl
     refine hK.out _ _ ⟨(blk_cell (blk_alloc BK132.out _) 0).trans rfl, (blk_cell (blk_alloc BK132.out _) 1).trans rfl, (blk_cell (blk_alloc BK132.out _) 2).trans rfl, (blk_cell (blk_alloc BK132.out _) 3).trans rfl, (World.cell?_alloc_lt _ _ _ (World.block_lt_of_cell? _ _ (hHeld.2.2.2.2))).trans (hHeld.2.2.2.2)⟩ (fun hHeld => ?_)
     clear hK K
     refine norm_ (a' := ?_) ?_ ?_
     rotate_left
     ·
      show Act.put _ (some 42) _ = _
      simp only [Act.put, sA, sZ, sS, i64_w, i32_w]
      rfl
     refine one_ (i := 11) (N := some 43) #[T, T, T, T, T, T, T, T, T, T, T, T, F, F] rfl rfl (one_of HT_.out (by kernel_rfl)) (by decide) (fun K hK => ?_)
     refine Kd.R_append_step (Kd.int .i64) (w0 := w) w.heap.size (by rfl) (.tmp 39) (.tmp 42) 62 3 (.int .i64 0) 8 rfl Try.underlying62 info3 rfl (by decide) (by omega) (.slice A133_0 (rd_L2 x5_1 ((rd_T45 l0_1 x28_1).f0)).length c133_0) (rd_L2 x5_1 ((rd_T45 l0_1 x28_1).f0)) ((rd_T45 l0_1 x28_1).f1) [.int .i64 ((rd_T45 l0_1 x28_1).f1)] (fun k_ => oki34 k_ ∨ ((fun _ => True)) k_ ∧ w32.heap.size ≤ k_) (fun _ => False) rfl rfl ?aP (fun _ hk => hk.elim) ?aF ?aO ?aB ?aS ?aL ?_
     (case aP => exact rfl)
     (case aB => exact lb)
     (case aF => exact (fun k_ hk => .inr ⟨trivial, hk⟩))
     (case aO => exact (by exact rx (Kd.R_mono UU34.out (fun _ hk => .inl hk))))
     (case aS => exact (below_size lb))
     (case aL => have := LMc21.out; omega)
     intro v135 w35 ho hb hg hat
     (first | have HS4_ := cell_grown hg (hHeld.2.2.2.2) (by first | (rw [add_block]; exact (fun e_ => ((HL133_0.out.1 _ e_.symm).2) rfl)) | (show some (Addr.add _ _).block ≠ _; rw [add_block]; exact (fun e_ => ((HL133_0.out.1 _ e_.symm).2) rfl)) | exact (fun e_ => ((HL133_0.out.1 _ e_.symm).2) rfl)) | have HS4_ := cell_grown hg (cell_unalloc (hHeld.2.2.2.2) (by first | (rw [add_block]; exact Kd.S_lt HO_5.out _ rfl) | (show (Addr.add _ _).block < _; rw [add_block]; exact Kd.S_lt HO_5.out _ rfl) | exact Kd.S_lt HO_5.out _ rfl)) (by first | (rw [add_block]; exact (fun e_ => ((HL133_0.out.1 _ e_.symm).2) rfl)) | (show some (Addr.add _ _).block ≠ _; rw [add_block]; exact (fun e_ => ((HL133_0.out.1 _ e_.symm).2) rfl)) | exact (fun e_ => ((HL133_0.out.1 _ e_.symm).2) rfl)))
     rw [← Ny134.out] at ho
     have n_ := a6 (blk_grown (bx BK124.out) hg (Kd.R_ne HL133_0.out BK124.out (by decide))) (blk_grown (bx BK127.out) hg (Kd.R_ne HL133_0.out BK127.out (by decide))) (blk_grown (bx BK132.out) hg (Kd.R_ne HL133_0.out BK132.out (by decide))) hb (Kd.H_grown (Kd.H_widen (by repeat (first | exact HH34.out | refine Kd.H_alloc ?_ _ | refine Kd.H_drewN ?_ _ | refine Kd.H_drew ?_))) hg (fun k_ e_ => .inl (UU34.out.1 k_ e_))) ho; clear BK124 BK127 BK132 HB HH34 HO_5 UU34 HL133_0; obtain ⟨BK124, BK127, BK132, HB, HH34, HO136⟩ := n_
     clear ho hb hg hat; have p22 : 0 ≤ (((rd_T45 l0_1 x28_1).f0) : Int) := oda; have q22 : (((rd_T45 l0_1 x28_1).f0) : Int) < ((x5_1.length : Int) : Int) := oda; replace p22 := eq_true p22; replace q22 := eq_true q22; obtain ⟨Ao38, co38, eo38⟩ := Kd.R_slice HO136.out
     (first | subst eo38 | (injection eo38 with f1_ f2_ f3_; have f4_ := f1_.symm; have f5_ := f3_.symm; clear f1_ f2_ f3_; subst f4_; subst f5_))
     obtain ⟨_, _, hraw36, _, _, hcc36, _⟩ := Kd.H_raw HH34.out (oda) (by have h_ : (((rd_T45 l0_1 x28_1).f0) : Int) < ((x5_1.length : Int) : Int) := oda; first | exact h_ | (have e_ := (HN34.out); omega) | simpa using h_)
     obtain ⟨_, hfr36⟩ := Kd.H_at HH34.out (oda) (by have h_ : (((rd_T45 l0_1 x28_1).f0) : Int) < ((x5_1.length : Int) : Int) := oda; first | exact h_ | (have e_ := (HN34.out); omega) | simpa using h_)
     have hx36_0 := hcc36 0 _ rfl; have hf36_0 := hfr36 0
     (try simp only [Nat.add_zero] at hx36_0 hf36_0)
     (try rw [show ((Kd.slice 3 (Kd.int .i64))).sz = 1 from rfl, Nat.mul_one] at hx36_0)
     (try rw [show ((Kd.slice 3 (Kd.int .i64))).sz = 1 from rfl, Nat.mul_one] at hf36_0)
     have HP36 := Kd.S_seg0 HH34.out (oda) (by have h_ : (((rd_T45 l0_1 x28_1).f0) : Int) < ((x5_1.length : Int) : Int) := oda; first | exact h_ | (have e_ := (HN34.out); omega) | simpa using h_) (seg := [.slice Ao38 y134.length co38]) (j := 0) (show 1 ≤ 1 from by decide) (x' := y134) (Kd.M_row HO136.out) (fun _ hk => hk)
     (try simp only [show ((Kd.slice 3 (Kd.int .i64))).sz = 1 from rfl, Nat.mul_one, Nat.add_zero] at HP36)
     clear hcc36 hfr36; have HNB124_go34 := ak (show gb124 ≠ go34 from by have h_ := Kd.R_ne hraw36 BK124.out (by decide); intro e_; exact h_ (by rw [e_]; rfl))
     have HNB127_go34 := ak (show gb127 ≠ go34 from by have h_ := Kd.R_ne hraw36 BK127.out (by decide); intro e_; exact h_ (by rw [e_]; rfl))
     have HNB132_go34 := ak (show gb132 ≠ go34 from by have h_ := Kd.R_ne hraw36 BK132.out (by decide); intro e_; exact h_ (by rw [e_]; rfl))
     have HS36 := HP36.1; rw [← Ny137.out] at HS36; have HQ36 := ak HS36; obtain ⟨_, hgg36⟩ := Kd.R_typed hraw36 go34 rfl; have GG36_ := ak hgg36; clear HP36 HS36 hgg36
     refine hK.out _ _ ⟨(blk_cell BK132.out 0).trans rfl, (blk_cell BK132.out 1).trans rfl, (blk_cell BK132.out 2).trans rfl, (blk_cell BK132.out 3).trans rfl, HS4_⟩ (fun hHeld => ?_)
     clear hK K
     refine norm_ (a' := ?_) ?_ ?_
     rotate_left
     ·
      show Act.put _ (some 43) _ = _
      simp only [Act.put, sA, sZ, sS, i64_w, i32_w]
      rfl
     refine pure_ (i := 12) (N := some 44) (v := ?_) (a' := ?_) #[T, T, T, T, T, T, T, T, T, T, T, T, T, F] rfl rfl (any_of HT_.out (by kernel_rfl)) (fun _ _ _ h => h) (Or.inl ⟨by rfl, ?_⟩) ?_ ?_; rotate_left; intro w'; go_simp; with_reducible rfl; rotate_left; simp only [Act.put, sA, sZ, sS, i64_w, i32_w]; rfl
     refine last_ (i := 13) (N := none) #[T, T, T, T, T, T, T, T, T, T, T, T, T, T] rfl rfl (one_of HT_.out (by kernel_rfl)) (by decide) (fun K hK => ?_)
     refine skip_ (w1 := ?_) (by rfl) rfl ?_ ?_
     rotate_left
     ·
      go_simp
      rfl
     refine hK.out _ _ ?_
     clear hK K
     refine done_ (done_of HT_.out (by kernel_rfl)) ?_
     try go_wp2
     have n0_ : Aside0 (Kd.S (Kd.slice 3 (Kd.int .i64)) 62 (w35.setCell ⟨go34, (((rd_T45 l0_1 x28_1).f0) : Int).toNat, none⟩ (.slice Ao38 y134.length co38)) w.heap.size (fun _ => True) (.slice (some ⟨go34, 0, none⟩) x5_1.length co33) y137) := ⟨by (with_reducible repeat (first | apply Kd.S_alloc | apply Kd.S_drewN | apply Kd.S_drew)); exact HQ36.out⟩
     have n1_ : Aside0 ((w35.setCell ⟨go34, (((rd_T45 l0_1 x28_1).f0) : Int).toNat, none⟩ (.slice Ao38 y134.length co38)).heap[gb124]? = some (.cells #[.int .i64 a0_0, .slice (some ad131) l0_1.length c0_1] 24 (0, 0))) := ⟨by (with_reducible repeat (first | refine blk_drewN ?_ _ | refine blk_drew ?_ | refine blk_alloc ?_ _)); refine blk_far ?_ HNB124_go34.out _; exact bx BK124.out⟩
     have n2_ : Aside0 ((w35.setCell ⟨go34, (((rd_T45 l0_1 x28_1).f0) : Int).toNat, none⟩ (.slice Ao38 y134.length co38)).heap[gb127]? = some (.cells #[.int .i64 t125, .int .i64 t126] 53 (0, 0))) := ⟨by (with_reducible repeat (first | refine blk_drewN ?_ _ | refine blk_drew ?_ | refine blk_alloc ?_ _)); refine blk_far ?_ HNB127_go34.out _; exact bx BK127.out⟩
     have n3_ : Aside0 ((w35.setCell ⟨go34, (((rd_T45 l0_1 x28_1).f0) : Int).toNat, none⟩ (.slice Ao38 y134.length co38)).heap[gb132]? = some (.cells #[.int .i64 ((rd_T45 l0_1 x28_1).f0), .int .i64 ((rd_T45 l0_1 x28_1).f1), .int .i64 ((rd_T45 l0_1 x28_1).f2), .int .i64 ((rd_T45 l0_1 x28_1).f3)] 45 (0, 0))) := ⟨by (with_reducible repeat (first | refine blk_drewN ?_ _ | refine blk_drew ?_ | refine blk_alloc ?_ _)); refine blk_far ?_ HNB132_go34.out _; exact bx BK132.out⟩
     have n4_ : Aside0 (Below w.heap.size w (w35.setCell ⟨go34, (((rd_T45 l0_1 x28_1).f0) : Int).toNat, none⟩ (.slice Ao38 y134.length co38))) := ⟨by repeat (first | (with_reducible first | exact HB.out | apply below_alloc | apply pw_below_drewN | apply below_drew1 | refine below_set ?_ GB34.out | refine below_set ?_ GE124.out | refine below_set ?_ GE127.out | refine below_set ?_ GE132.out) | exact HB.out)⟩
     (try clear HO_5)
     (try clear BK124)
     (try clear BK127)
     (try clear BK132)
     (try clear HB)
     generalize (w35.setCell ⟨go34, (((rd_T45 l0_1 x28_1).f0) : Int).toNat, none⟩ (.slice Ao38 y134.length co38)) = w39 at n0_ n1_ n2_ n3_ n4_ ⊢
     have HO_5 := n0_; have BK124 := n1_; have BK127 := n2_; have BK132 := n3_; have HB := n4_; clear n0_ n1_ n2_ n3_ n4_; have n_ := a5 (Kd.S_drew HO_5.out) (blk_drew BK124.out) (blk_drew BK127.out) (blk_drew BK132.out) (below_drew1 HB.out); clear HO_5 BK124 BK127 BK132 HB; obtain ⟨HO_5, BK124, BK127, BK132, HB⟩ := n_; have p138 : 0 ≤ (((rd_T45 l0_1 x28_1).f1) : Int) := oda
     have q138 : ((rd_T45 l0_1 x28_1).f1) < (y137.length : Int) := (by have h_ : (((rd_T45 l0_1 x28_1).f1) : Int) < ((x5_1.length : Int) : Int) := oda; first | (have e_ := (Kd.S_reads' HO_5.out).1; omega) | simpa only [Ny137.out, List.length_set] using h_)
     have ql138 : ((((rd_T45 l0_1 x28_1).f1) : Int) < ((x5_1.length : Int) : Int)) = True := eq_true (oda); obtain ⟨ad138, A138_0, c138_0, e138, hx138_0, hl138_0, hi138_0⟩ := at_L2 (Kd.S_reads' HO_5.out).2.2 ((rd_T45 l0_1 x28_1).f1) p138 q138
     obtain rfl : (⟨go34, 0, none⟩ : Addr) = ad138 := (by injection e138)
     obtain ⟨ce138, hce138, hMe138, hcc138⟩ := Kd.S_get HO_5.out [] ((rd_T45 l0_1 x28_1).f1) p138 (by first | exact q138 | exact oda | (have e_ := (Kd.S_reads' HO_5.out).1; omega))
     obtain ⟨ve138_0, rfl, ge138_0⟩ := hMe138; have hv138_0 := hcc138 0 _ rfl; rw [Nat.add_zero, show ((Kd.slice 3 (Kd.int .i64))).sz = 1 from rfl, Nat.mul_one] at hv138_0; replace hv138_0 := Option.some.inj (hv138_0.symm.trans hx138_0); rw [hv138_0] at ge138_0; have HL138_0 := ak (show Kd.R (Kd.int .i64) 3 _ _ _ _ (rd_L2 y137 ((rd_T45 l0_1 x28_1).f1)) from ge138_0); clear hv138_0 ge138_0; have HX138_0 := ak hx138_0; clear hcc138 hce138
     (first | simp only [add_plain] at hx138_0 | simp only [add_at] at hx138_0 | simp only [Addr.add, Nat.zero_add] at hx138_0 | skip)
     have HR138_0 := ak hi138_0; have HC138_0 := ak hl138_0; clear hi138_0 hl138_0; replace p138 := eq_true p138; replace q138 := eq_true q138
     obtain ⟨oki41, ce41, hcl41, hM41, hcc41, _, _, hH41⟩ := Kd.S_elem HO_5.out [] (((rd_T45 l0_1 x28_1).f1) : Int) (oda) (by have h_ : (((rd_T45 l0_1 x28_1).f1) : Int) < ((x5_1.length : Int) : Int) := oda; first | exact h_ | (have e_ := (Kd.S_reads' HO_5.out).1; omega) | simpa using h_)
     obtain ⟨ve41_0, rfl, ge41_0⟩ := hM41; have hv41 := hcc41 0 _ rfl; have hX41 := HX138_0.out
     (try simp only [add_plain] at hX41)
     (try simp only [Nat.add_zero] at hv41)
     (try rw [show ((Kd.slice 3 (Kd.int .i64))).sz = 1 from rfl, Nat.mul_one] at hv41)
     replace hv41 := Option.some.inj (hv41.symm.trans hX41); subst hv41; clear hX41 hcc41 hcl41; have UU41 := ak (show Kd.R (Kd.int .i64) 3 _ w.heap.size oki41 (.slice A138_0 (rd_L2 y137 ((rd_T45 l0_1 x28_1).f1)).length c138_0) (rd_L2 y137 ((rd_T45 l0_1 x28_1).f1)) from ge41_0); have HH41 := ak hH41; have HN41 := ak (Kd.S_reads' HO_5.out).1; clear hH41 ge41_0
     refine start_ (n := 14) (S := fun w' => w'.cell? ⟨gb132, 0, none⟩ = some (.int .i64 ((rd_T45 l0_1 x28_1).f0)) ∧ w'.cell? ⟨gb132, 1, none⟩ = some (.int .i64 ((rd_T45 l0_1 x28_1).f1)) ∧ w'.cell? ⟨gb132, 2, none⟩ = some (.int .i64 ((rd_T45 l0_1 x28_1).f2)) ∧ w'.cell? ⟨gb132, 3, none⟩ = some (.int .i64 ((rd_T45 l0_1 x28_1).f3)) ∧ w'.cell? ⟨go34, (((rd_T45 l0_1 x28_1).f1)).toNat, none⟩ = some (.slice A138_0 (rd_L2 y137 ((rd_T45 l0_1 x28_1).f1)).length c138_0)) (ds := [13]) #[F, F, F, F, F, F, F, F, F, F, F, F, F, F] (by kernel_rfl) rfl rfl ⟨(blk_cell BK132.out 0).trans rfl, (blk_cell BK132.out 1).trans rfl, (blk_cell BK132.out 2).trans rfl, (blk_cell BK132.out 3).trans rfl, hx138_0⟩ (fun hHeld => ?_); refine with_tabW walk_Parts.tab9 walk_Parts.bits9 (fun HT_ HW_ => ?_)
     generalize w39.drew = w40 at HO_5 BK124 BK127 BK132 HB HH41 HL138_0 HQ36 HR138_0 HX138_0 UU41 hx138_0 hHeld ⊢
     refine pure_ (i := 0) (N := some 45) (v := ?_) (a' := ?_) #[T, F, F, F, F, F, F, F, F, F, F, F, F, F] rfl rfl (any_of HT_.out (by kernel_rfl)) (fun _ _ _ h => h) (Or.inl ⟨by rfl, ?_⟩) ?_ ?_; rotate_left; intro w'; go_simp; with_reducible rfl; rotate_left; simp only [Act.put, sA, sZ, sS, i64_w, i32_w]; rfl
     refine pure_ (i := 1) (N := some 46) (v := ?_) (a' := ?_) #[T, T, F, F, F, F, F, F, F, F, F, F, F, F] rfl rfl (any_of HT_.out (by kernel_rfl)) (fun _ _ _ h => h) (Or.inl ⟨by rfl, ?_⟩) ?_ ?_; rotate_left; intro w'; go_simp; with_reducible rfl; rotate_left; simp only [Act.put, sA, sZ, sS, i64_w, i32_w]; rfl
     refine pure_ (i := 3) (N := some 48) (v := ?_) (a' := ?_) #[T, T, F, T, F, F, F, F, F, F, F, F, F, F] rfl rfl (any_of HT_.out (by kernel_rfl)) (fun _ _ _ h => h) (Or.inl ⟨by rfl, ?_⟩) ?_ ?_; rotate_left; intro w'; go_simp; with_reducible rfl; rotate_left; simp only [Act.put, sA, sZ, sS, i64_w, i32_w]; rfl
     refine pure_ (i := 4) (N := some 49) (v := ?_) (a' := ?_) #[T, T, F, T, T, F, F, F, F, F, F, F, F, F] rfl rfl (any_of HT_.out (by kernel_rfl)) (fun _ _ _ h => h) (Or.inl ⟨by rfl, ?_⟩) ?_ ?_; rotate_left; intro w'; go_simp; with_reducible rfl; rotate_left; simp only [Act.put, sA, sZ, sS, i64_w, i32_w]; rfl
     refine pure_ (i := 8) (N := some 53) (v := ?_) (a' := ?_) #[T, T, F, T, T, F, F, F, T, F, F, F, F, F] rfl rfl (any_of HT_.out (by kernel_rfl)) (fun _ _ _ h => h) (Or.inl ⟨by rfl, ?_⟩) ?_ ?_; rotate_left; intro w'; go_simp; with_reducible rfl; rotate_left; simp only [Act.put, sA, sZ, sS, i64_w, i32_w]; rfl
     refine take_ (i := 2) (N := some 47) (v := ?_) (a' := ?_) #[T, T, T, T, T, F, F, F, T, F, F, F, F, F] rfl rfl (take_ofW HT_.out HW_.out (by kernel_rfl)) (fun _ _ _ h => h) (Or.inl ⟨by rfl, ?_⟩) hHeld ?_ ?_; rotate_left; rintro w' ⟨s0, s1, s2, s3, s4⟩; go_simp; with_reducible rfl; rotate_left; simp only [Act.put, sA, sZ, sS, i64_w, i32_w]; rfl
     refine take_ (i := 5) (N := some 50) (v := ?_) (a' := ?_) #[T, T, T, T, T, T, F, F, T, F, F, F, F, F] rfl rfl (take_ofW HT_.out HW_.out (by kernel_rfl)) (fun _ _ _ h => h) (Or.inl ⟨by rfl, ?_⟩) hHeld ?_ ?_; rotate_left; rintro w' ⟨s0, s1, s2, s3, s4⟩; go_simp; with_reducible rfl; rotate_left; simp only [Act.put, sA, sZ, sS, i64_w, i32_w]; rfl
     refine pure_ (i := 6) (N := some 51) (v := ?_) (a' := ?_) #[T, T, T, T, T, T, T, F, T, F, F, F, F, F] rfl rfl (any_of HT_.out (by kernel_rfl)) (fun _ _ _ h => h) (Or.inl ⟨by rfl, ?_⟩) ?_ ?_; rotate_left; intro w'; go_simp; with_reducible rfl; rotate_left; simp only [Act.put, sA, sZ, sS, i64_w, i32_w]; rfl
     refine take_ (i := 7) (N := some 52) (v := ?_) (a' := ?_) #[T, T, T, T, T, T, T, T, T, F, F, F, F, F] rfl rfl (take_ofW HT_.out HW_.out (by kernel_rfl)) (fun _ _ _ h => h) (Or.inl ⟨by rfl, ?_⟩) hHeld ?_ ?_; rotate_left; rintro w' ⟨s0, s1, s2, s3, s4⟩; go_simp; with_reducible rfl; rotate_left; simp only [Act.put, sA, sZ, sS, i64_w, i32_w]; rfl
     refine take_ (i := 9) (N := some 54) (v := ?_) (a' := ?_) #[T, T, T, T, T, T, T, T, T, T, F, F, F, F] rfl rfl (take_ofW HT_.out HW_.out (by kernel_rfl)) (fun _ _ _ h => h) (Or.inl ⟨by rfl, ?_⟩) hHeld ?_ ?_; rotate_left; rintro w' ⟨s0, s1, s2, s3, s4⟩; go_simp; with_reducible rfl; rotate_left; simp only [Act.put, sA, sZ, sS, i64_w, i32_w]; rfl
     refine one_ (i := 10) (N := some 55) #[T, T, T, T, T, T, T, T, T, T, T, F, F, F] rfl rfl (one_of HT_.out (by kernel_rfl)) (by decide) (fun K hK => ?_)
     refine value_ (w1 := ?_) (v := ?_) (by rfl) rfl ?_ ?_
     rotate_left 2
     ·
      go_simp
      constructor
      ·
       rfl
      ·
       rfl
     refine hK.out _ _ ⟨(blk_cell (blk_alloc BK132.out _) 0).trans rfl, (blk_cell (blk_alloc BK132.out _) 1).trans rfl, (blk_cell (blk_alloc BK132.out _) 2).trans rfl, (blk_cell (blk_alloc BK132.out _) 3).trans rfl, (World.cell?_alloc_lt _ _ _ (World.block_lt_of_cell? _ _ (hHeld.2.2.2.2))).trans (hHeld.2.2.2.2)⟩ (fun hHeld => ?_)
     clear hK K
     refine norm_ (a' := ?_) ?_ ?_
     rotate_left
     ·
      show Act.put _ (some 55) _ = _
      simp only [Act.put, sA, sZ, sS, i64_w, i32_w]
      rfl
     refine one_ (i := 11) (N := some 56) #[T, T, T, T, T, T, T, T, T, T, T, T, F, F] rfl rfl (one_of HT_.out (by kernel_rfl)) (by decide) (fun K hK => ?_)
     refine Kd.R_append_step (Kd.int .i64) (w0 := w) w.heap.size (by rfl) (.tmp 52) (.tmp 55) 62 3 (.int .i64 0) 8 rfl Try.underlying62 info3 rfl (by decide) (by omega) (.slice A138_0 (rd_L2 y137 ((rd_T45 l0_1 x28_1).f1)).length c138_0) (rd_L2 y137 ((rd_T45 l0_1 x28_1).f1)) ((rd_T45 l0_1 x28_1).f0) [.int .i64 ((rd_T45 l0_1 x28_1).f0)] (fun k_ => oki41 k_ ∨ ((fun _ => True)) k_ ∧ w40.heap.size ≤ k_) (fun _ => False) rfl rfl ?aP (fun _ hk => hk.elim) ?aF ?aO ?aB ?aS ?aL ?_
     (case aP => exact rfl)
     (case aB => exact lb)
     (case aF => exact (fun k_ hk => .inr ⟨trivial, hk⟩))
     (case aO => exact (by exact rx (Kd.R_mono UU41.out (fun _ hk => .inl hk))))
     (case aS => exact (below_size lb))
     (case aL => have := LMc25.out; omega)
     intro v140 w42 ho hb hg hat
     (first | have HS4_ := cell_grown hg (hHeld.2.2.2.2) (by first | (rw [add_block]; exact (fun e_ => ((HL138_0.out.1 _ e_.symm).2) rfl)) | (show some (Addr.add _ _).block ≠ _; rw [add_block]; exact (fun e_ => ((HL138_0.out.1 _ e_.symm).2) rfl)) | exact (fun e_ => ((HL138_0.out.1 _ e_.symm).2) rfl)) | have HS4_ := cell_grown hg (cell_unalloc (hHeld.2.2.2.2) (by first | (rw [add_block]; exact Kd.S_lt HO_5.out _ rfl) | (show (Addr.add _ _).block < _; rw [add_block]; exact Kd.S_lt HO_5.out _ rfl) | exact Kd.S_lt HO_5.out _ rfl)) (by first | (rw [add_block]; exact (fun e_ => ((HL138_0.out.1 _ e_.symm).2) rfl)) | (show some (Addr.add _ _).block ≠ _; rw [add_block]; exact (fun e_ => ((HL138_0.out.1 _ e_.symm).2) rfl)) | exact (fun e_ => ((HL138_0.out.1 _ e_.symm).2) rfl)))
     rw [← Ny139.out] at ho
     have n_ := a6 (blk_grown (bx BK124.out) hg (Kd.R_ne HL138_0.out BK124.out (by decide))) (blk_grown (bx BK127.out) hg (Kd.R_ne HL138_0.out BK127.out (by decide))) (blk_grown (bx BK132.out) hg (Kd.R_ne HL138_0.out BK132.out (by decide))) hb (Kd.H_grown (Kd.H_widen (by repeat (first | exact HH41.out | refine Kd.H_alloc ?_ _ | refine Kd.H_drewN ?_ _ | refine Kd.H_drew ?_))) hg (fun k_ e_ => .inl (UU41.out.1 k_ e_))) ho; clear BK124 BK127 BK132 HB HH41 HO_5 UU41 HL138_0; obtain ⟨BK124, BK127, BK132, HB, HH41, HO141⟩ := n_
     clear ho hb hg hat; have p26 : 0 ≤ (((rd_T45 l0_1 x28_1).f1) : Int) := oda; have q26 : (((rd_T45 l0_1 x28_1).f1) : Int) < ((x5_1.length : Int) : Int) := oda; replace p26 := eq_true p26; replace q26 := eq_true q26; obtain ⟨Ao45, co45, eo45⟩ := Kd.R_slice HO141.out
     (first | subst eo45 | (injection eo45 with f1_ f2_ f3_; have f4_ := f1_.symm; have f5_ := f3_.symm; clear f1_ f2_ f3_; subst f4_; subst f5_))
     obtain ⟨_, _, hraw43, _, _, hcc43, _⟩ := Kd.H_raw HH41.out (oda) (by have h_ : (((rd_T45 l0_1 x28_1).f1) : Int) < ((x5_1.length : Int) : Int) := oda; first | exact h_ | (have e_ := (HN41.out); omega) | simpa using h_)
     obtain ⟨_, hfr43⟩ := Kd.H_at HH41.out (oda) (by have h_ : (((rd_T45 l0_1 x28_1).f1) : Int) < ((x5_1.length : Int) : Int) := oda; first | exact h_ | (have e_ := (HN41.out); omega) | simpa using h_)
     have hx43_0 := hcc43 0 _ rfl; have hf43_0 := hfr43 0
     (try simp only [Nat.add_zero] at hx43_0 hf43_0)
     (try rw [show ((Kd.slice 3 (Kd.int .i64))).sz = 1 from rfl, Nat.mul_one] at hx43_0)
     (try rw [show ((Kd.slice 3 (Kd.int .i64))).sz = 1 from rfl, Nat.mul_one] at hf43_0)
     have HP43 := Kd.S_seg0 HH41.out (oda) (by have h_ : (((rd_T45 l0_1 x28_1).f1) : Int) < ((x5_1.length : Int) : Int) := oda; first | exact h_ | (have e_ := (HN41.out); omega) | simpa using h_) (seg := [.slice Ao45 y139.length co45]) (j := 0) (show 1 ≤ 1 from by decide) (x' := y139) (Kd.M_row HO141.out) (fun _ hk => hk)
     (try simp only [show ((Kd.slice 3 (Kd.int .i64))).sz = 1 from rfl, Nat.mul_one, Nat.add_zero] at HP43)
     clear hcc43 hfr43; have HNB124_go34 := ak (show gb124 ≠ go34 from by have h_ := Kd.R_ne hraw43 BK124.out (by decide); intro e_; exact h_ (by rw [e_]; rfl))
     have HNB127_go34 := ak (show gb127 ≠ go34 from by have h_ := Kd.R_ne hraw43 BK127.out (by decide); intro e_; exact h_ (by rw [e_]; rfl))
     have HNB132_go34 := ak (show gb132 ≠ go34 from by have h_ := Kd.R_ne hraw43 BK132.out (by decide); intro e_; exact h_ (by rw [e_]; rfl))
     have HS43 := HP43.1; rw [← Ny142.out] at HS43; have HQ43 := ak HS43; obtain ⟨_, hgg43⟩ := Kd.R_typed hraw43 go34 rfl; have GG43_ := ak hgg43; clear HP43 HS43 hgg43
     refine hK.out _ _ ⟨(blk_cell BK132.out 0).trans rfl, (blk_cell BK132.out 1).trans rfl, (blk_cell BK132.out 2).trans rfl, (blk_cell BK132.out 3).trans rfl, HS4_⟩ (fun hHeld => ?_)
     clear hK K
     refine norm_ (a' := ?_) ?_ ?_
     rotate_left
     ·
      show Act.put _ (some 56) _ = _
      simp only [Act.put, sA, sZ, sS, i64_w, i32_w]
      rfl
     refine pure_ (i := 12) (N := some 57) (v := ?_) (a' := ?_) #[T, T, T, T, T, T, T, T, T, T, T, T, T, F] rfl rfl (any_of HT_.out (by kernel_rfl)) (fun _ _ _ h => h) (Or.inl ⟨by rfl, ?_⟩) ?_ ?_; rotate_left; intro w'; go_simp; with_reducible rfl; rotate_left; simp only [Act.put, sA, sZ, sS, i64_w, i32_w]; rfl
     refine last_ (i := 13) (N := none) #[T, T, T, T, T, T, T, T, T, T, T, T, T, T] rfl rfl (one_of HT_.out (by kernel_rfl)) (by decide) (fun K hK => ?_)
     refine skip_ (w1 := ?_) (by rfl) rfl ?_ ?_
     rotate_left
     ·
      go_simp
      rfl
     refine hK.out _ _ ?_
     clear hK K
     refine done_ (done_of HT_.out (by kernel_rfl)) ?_
     try go_wp2
     go_roundg k1
     case measure => have := HK1.out; omega
     case rel => exact ⟨(y142), (wrap64 (x28_1 + 1)), (by first | rfl | (simp [*]; done)), H', ⟨by have := HK1.out; omega⟩, ⟨by (with_reducible repeat (first | apply Kd.S_alloc | apply Kd.S_drewN | apply Kd.S_drew)); exact HQ43.out⟩, ⟨by (with_reducible repeat (first | refine blk_drewN ?_ _ | refine blk_drew ?_ | refine blk_alloc ?_ _)); refine blk_far ?_ HNB124_go34.out _; exact bx BK124.out⟩, ⟨by (with_reducible repeat (first | refine blk_drewN ?_ _ | refine blk_drew ?_ | refine blk_alloc ?_ _)); refine blk_far ?_ HNB127_go34.out _; exact bx BK127.out⟩, ⟨by repeat (first | (with_reducible first | exact HB.out | apply below_alloc | apply pw_below_drewN | apply below_drew1 | refine below_set ?_ GB34.out | refine below_set ?_ GE124.out | refine below_set ?_ GE127.out | refine below_set ?_ GE132.out) | exact HB.out)⟩⟩
    ·
     rw [if_neg c16] at H; have c16b0 : decide (x28_1 < (l0_1.length : Int)) = false := decide_eq_false c16; clear c16; replace H := Option.bind_eq_some_iff.mp H; obtain ⟨t143, A460, H⟩ := H; replace H : (walk_Parts.l1 k1 x5_1 t143 0 a0_0 0) = some (r1, r2) := H; have A46 := ak A460; clear A460; have H' := ak H; clear H; have hnb47 := NB124_127.out; have hnc47 := NB127_124.out; have hcz48_0 := bc0 BK124; have hcz48_1 := bc1 BK124; have hfz48_0 := bf BK124 0; have hfz48_1 := bf BK124 1
     go_wp2_with (first | ((with_reducible refine gate_callee (f := 36) rfl ?_); refine goesZ (some 61) rfl rfl Try.func36 (by kernel_rfl) rfl #[.int .i64 a0_0, .int .i64 (-1)] rfl ?_; (with_reducible refine (walk_filled.calls k1 a0_0 (-1) t143 _ A46.out).mono ?_); rintro e w49 ⟨v144, rfl, ho0, hb⟩; refine ⟨_, rfl, ?_⟩; have n_ := a5 (Kd.S_elder' (sx HO_5.out) (Kd.R_base ho0) hb) (Kd.R_lower ho0 (below_size lb)) (blk_below (bx BK124.out) hb) (blk_below (bx BK127.out) hb) (below_step lb hb); clear HO_5 BK124 BK127 HB; obtain ⟨HO_5, HO145, BK124, BK127, HB⟩ := n_; (try clear hb); (try clear hb2); (try clear hk); (try clear hi); (try clear ho0); have hcz50_0 := bc0 BK124; have hcz50_1 := bc1 BK124; have hfz50_0 := bf BK124 0; have hfz50_1 := bf BK124 1))
     go_loopg [9, 64] k1 (fun kq v9 v64 w' => ∃ (x8_2 : List Int) (x9_2 : Int) (x64_2 : Int), v9 = .int .i64 x9_2 ∧ v64 = .int .i64 x64_2 ∧ Aside0 (walk_Parts.l1 kq x5_1 x8_2 x9_2 a0_0 x64_2 = some (r1, r2)) ∧ Aside0 (kq ≤ k1) ∧ Aside0 (Kd.S (Kd.slice 3 (Kd.int .i64)) 62 w' w.heap.size (fun k_ => some k_ ≠ (v144 : Value).ownBlock) v129 x5_1) ∧ Aside0 (Kd.R (Kd.int .i64) 3 w' w.heap.size (fun _ => True) v144 x8_2) ∧ Aside0 (w'.heap[gb124]? = some (.cells #[.int .i64 a0_0, (.slice A0_1 l0_1.length c0_1)] 24 (0, 0))) ∧ Aside0 (w'.heap[gb127]? = some (.cells #[.int .i64 t125, .int .i64 t126] 53 (0, 0))) ∧ Aside0 (Below w.heap.size w w'))
     case atStart => exact ⟨(t143), (0), (0), (by first | rfl | (simp [*]; done)), (by first | rfl | (simp [*]; done)), H', ⟨Nat.le_refl _⟩, ⟨by exact sx (Kd.S_mono HO_5.out (fun _ hk => hk.2))⟩, ⟨rx HO145.out⟩, ⟨bx BK124.out⟩, ⟨bx BK127.out⟩, ⟨lb⟩⟩
     case round =>
      clear H'; obtain ⟨x8_2, x9_2, x64_2, rfl, rfl, HA, HK2, HO_5, HO_8, BK124, BK127, HB⟩ := hrel
      cases gk with
      | zero => exact absurd HA.out (by simp [walk_Parts.l1])
      | succ k2 =>
       have H := HA.out; clear HA
       simp only [walk_Parts.l1] at H
       by_cases c51 : x64_2 < a0_0
       ·
        rw [if_pos c51] at H; have c51b0 := decide_eq_true c51; clear c51; replace H := ifd H; obtain ⟨c52b0, H⟩ := H; replace H := ifd H; obtain ⟨c53b0, H⟩ := H
        by_cases c54 : (rd x8_2 x64_2) ≥ 0
        ·
         rw [if_pos c54] at H; have c54b0 := decide_eq_true c54; clear c54; have H' := ak H; clear H; obtain ⟨Ao55, co55, eo55⟩ := Kd.R_slice HO_8.out; subst eo55; have p146 : 0 ≤ (x64_2 : Int) := oda; have q146 : x64_2 < (x8_2.length : Int) := oda; obtain ⟨ad146, e146, hx146_0⟩ := Kd.at_int (Kd.R_reads' HO_8.out).2.2 x64_2 p146 q146; cases e146; replace p146 := eq_true p146; replace q146 := eq_true q146
         go_wp2
         go_roundg k2
         case measure => have := HK1.out; have := HK2.out; omega
         case rel => exact ⟨(x8_2), (x9_2), (wrap64 (x64_2 + 1)), (by first | rfl | (simp [*]; done)), (by first | rfl | (simp [*]; done)), H', ⟨by have := HK1.out; have := HK2.out; omega⟩, ⟨sx HO_5.out⟩, ⟨rx HO_8.out⟩, ⟨bx BK124.out⟩, ⟨bx BK127.out⟩, ⟨lb⟩⟩
        ·
         rw [if_neg c54] at H; have c54b0 : decide (0 ≤ (rd x8_2 x64_2)) = false := decide_eq_false c54; clear c54; obtain ⟨y147, hy147⟩ : ∃ y_ : List Int, y_ = (([x64_2] : List Int)) := ⟨_, rfl⟩; rw [← hy147] at H; have Ny147 := ak hy147; clear hy147; obtain ⟨y150, hy150⟩ : ∃ y_ : List Int, y_ = (x8_2.set (x64_2 : Int).toNat x9_2) := ⟨_, rfl⟩; rw [← hy150] at H; have Ny150 := ak hy150; clear hy150; have H' := ak H; clear H; obtain ⟨Ao57, co57, eo57⟩ := Kd.R_slice HO_8.out; subst eo57; have p146 : 0 ≤ (x64_2 : Int) := oda; have q146 : x64_2 < (x8_2.length : Int) := oda; obtain ⟨ad146, e146, hx146_0⟩ := Kd.at_int (Kd.R_reads' HO_8.out).2.2 x64_2 p146 q146; cases e146; replace p146 := eq_true p146; replace q146 := eq_true q146
         go_wp2_with (first | ((with_reducible refine gate_dst (N := 73) rfl ?_); refine Kd.R_lit (Kd.int .i64) _ 3 ?hg (N := 73) ?hd (xs := ([x64_2] : List Int)) (inner := [.int .i64 x64_2]) (ok := fun _ => True) (okp := fun _ => True) ?hr ?hp (fun _ hk => hk) trivial (Below.refl _ _) (Nat.le_refl _) (by simp) ?_; (case hd => rfl); (case hg => rfl); (case hr => first | (go_simp; done) | (go_simp; rfl)); (case hp => exact (Reps.one (show Kd.M (Kd.int .i64) _ _ _ x64_2 [.int .i64 x64_2] from rfl) (Reps.none _ _))); intro v148 w58 ho59 hb hg_ hnew_; clear hg_ hnew_; (first | rw [← Ny147.out] at ho59 | (simp only [Int.reduceToNat] at ho59; rw [← Ny147.out] at ho59)); have n_ := a6 (Kd.S_elder' (sx HO_5.out) (Kd.R_base ho59) hb) (Kd.R_elder' (rx HO_8.out) (Kd.R_base ho59) hb) (Kd.R_lower (Kd.R_new' ho59 (Kd.R_lt (rx HO_8.out))) (below_size lb)) (blk_below (bx BK124.out) hb) (blk_below (bx BK127.out) hb) (below_step lb hb); clear HO_5 HO_8 BK124 BK127 HB; obtain ⟨HO_5, HO_8, HO149, BK124, BK127, HB⟩ := n_; clear hb ho59; have p56 : 0 ≤ (x64_2 : Int) := oda; have q56 : (x64_2 : Int) < ((x8_2.length : Int) : Int) := oda; obtain ⟨go56, co56, eo56, gb56, gl56, cl56, HG56⟩ := Kd.R_form HO_8.out (by omega); (first | cases eo56 | (injection eo56 with ea_ en_ ec_; (first | subst ea_ | (injection ea_ with ea_; subst ea_)); subst ec_; clear en_)); have GB56 := ak gb56; have GG56 := ak HG56; clear gb56 gl56 HG56; (first | simp only [add_plain] at hx146_0 | skip); obtain ⟨hx56_0, hf56_0⟩ := Kd.R_celln 0 HO_8.out (x64_2 : Int) p56 q56; replace p56 := eq_true p56; replace q56 := eq_true q56; have n_ := ak (Kd.R_mono (ok' := (fun k_ => some k_ ≠ (v148 : Value).ownBlock)) HO_8.out (fun k_ hk => hk.2)); clear HO_8; have HO_8 := n_; clear n_; obtain ⟨hy60_, hz60_⟩ := Kd.R_celln 0 HO_8.out (x64_2 : Int) (oda) (oda); have HP60 := Kd.R_putg HO_8.out (x64_2 : Int) x9_2) | ((with_reducible refine gate_store (t := 3) (p := 77) rfl ?_); refine store_event (t := 3) (p := 77) (v := ?vo_w61) (w1 := (w58.setCell ⟨go56, (x64_2 : Int).toNat, none⟩ (.int .i64 x9_2))) ?hg ?ho ?hn ?hr ?_; (case ho => rfl); (case hg => rfl); (case hn => rfl); (case hr => first | (go_simp; done) | (go_simp; rfl)); intro w61 hw; have hg : w58.grownBy w61 (some go56) := (by rw [hw]; exact HP60.2); have hp_ : Kd.R (Kd.int .i64) 3 w61 w.heap.size (fun k_ => some k_ ≠ (v148 : Value).ownBlock) (.slice (some ⟨go56, 0, none⟩) x8_2.length co57) y150 := (by rw [hw, Ny150.out]; exact HP60.1); clear HP60; have n_ := a6 (Kd.S_after (v := (.slice (some ⟨go56, 0, none⟩) x8_2.length co57)) (v1 := (.slice (some ⟨go56, 0, none⟩) x8_2.length co57)) (ok := (fun k_ => some k_ ≠ (v148 : Value).ownBlock)) (by exact sx (Kd.S_mono HO_5.out (fun _ hk => ⟨hk.2, hk.1⟩))) hg (.inl rfl)) hp_ (blk_grown (bx BK124.out) hg (Kd.R_ne HO_8.out BK124.out (by decide))) (blk_grown (bx BK127.out) hg (Kd.R_ne HO_8.out BK127.out (by decide))) (Kd.R_after (v := (.slice (some ⟨go56, 0, none⟩) x8_2.length co57)) (v1 := (.slice (some ⟨go56, 0, none⟩) x8_2.length co57)) (ok := (fun _ => True)) (rx HO149.out) hg (.inl rfl)) (by rw [hw]; exact below_set (HB.out) GB56.out : Below w.heap.size w w61); clear HO_5 HO_8 BK124 BK127 HO149 HB; obtain ⟨HO_5, HO_8, BK124, BK127, HO149, HB⟩ := n_; clear hg hw hp_))
         go_loopg [11] k2 (fun kq v11 w' => ∃ (x8_3 : List Int) (x11_3 : List Int), Aside0 (walk_Parts.l2 kq x5_1 x8_3 x9_2 x11_3 a0_0 x64_2 = some (r1, r2)) ∧ Aside0 (kq ≤ k2) ∧ Aside0 (Kd.S (Kd.slice 3 (Kd.int .i64)) 62 w' w.heap.size (fun k_ => some k_ ≠ ((.slice (some ⟨go56, 0, none⟩) x8_2.length co57) : Value).ownBlock ∧ some k_ ≠ (v11 : Value).ownBlock) v129 x5_1) ∧ Aside0 (Kd.R (Kd.int .i64) 3 w' w.heap.size (fun k_ => some k_ ≠ (v11 : Value).ownBlock) (.slice (some ⟨go56, 0, none⟩) x8_2.length co57) x8_3) ∧ Aside0 (Kd.R (Kd.int .i64) 3 w' w.heap.size (fun k_ => some k_ ≠ ((.slice (some ⟨go56, 0, none⟩) x8_2.length co57) : Value).ownBlock) v11 x11_3) ∧ Aside0 (w'.heap[gb124]? = some (.cells #[.int .i64 a0_0, (.slice A0_1 l0_1.length c0_1)] 24 (0, 0))) ∧ Aside0 (w'.heap[gb127]? = some (.cells #[.int .i64 t125, .int .i64 t126] 53 (0, 0))) ∧ Aside0 (Below w.heap.size w w'))
         case atStart => exact ⟨(y150), (y147), H', ⟨Nat.le_refl _⟩, ⟨by exact sx (Kd.S_mono HO_5.out (fun _ hk => ⟨hk.2, hk.1⟩))⟩, ⟨rx HO_8.out⟩, ⟨by exact rx (Kd.R_mono HO149.out (fun _ hk => hk.2))⟩, ⟨bx BK124.out⟩, ⟨bx BK127.out⟩, ⟨lb⟩⟩
         case round =>
          clear H'; obtain ⟨x8_3, x11_3, HA, HK3, HO_5, HO_8, HO_11, BK124, BK127, HB⟩ := hrel; have hl8_3 := (Kd.R_reads' HO_8.out).1; rw [hl8_3] at HO_8
          (try simp only [hl8_3])
          (try simp only [hl8_3] at BK124)
          (try simp only [hl8_3] at BK127)
          (try simp only [hl8_3] at HO_5)
          (try simp only [hl8_3] at HO_11)
          cases gk with
          | zero => exact absurd HA.out (by simp [walk_Parts.l2])
          | succ k3 =>
           have H := HA.out; clear HA
           simp only [walk_Parts.l2] at H
           by_cases c62 : (x11_3.length : Int) > 0
           ·
            rw [if_pos c62] at H; have c62b0 := decide_eq_true c62
            have c62b1 : decide (0 < x11_3.length) = true := decide_eq_true (by omega)
            clear c62; obtain ⟨ji63, hji63⟩ : ∃ j_ : Int, (wrap64 ((x11_3.length : Int) - 1)) = j_ := ⟨_, rfl⟩; replace H : (if 0 ≤ (ji63) then (if (ji63) < (x11_3.length : Int) then (if (ji63) ≤ (x11_3.length : Int) then (if 0 ≤ (rd x11_3 (ji63)) then (if (rd x11_3 (ji63)) < (x5_1.length : Int) then (walk_Parts.l3 k3 x5_1 x8_3 x9_2 (x11_3.take ((ji63) : Int).toNat) a0_0 x64_2 (rd_L2 x5_1 (rd x11_3 (ji63))) ((rd_L2 x5_1 (rd x11_3 (ji63))).length : Int) 0) else (none)) else (none)) else (none)) else (none)) else (none)) = some (r1, r2) := by first | (rw [hji63] at H; exact H) | (simp only [hji63] at H ⊢; exact H)
            have hji63w : (IntKind.i64.wrap ((x11_3.length : Int) - 1)) = ji63 := (i64_w _).trans hji63; replace H := ifd H; obtain ⟨c64b0, H⟩ := H; replace H := ifd H; obtain ⟨c65b0, H⟩ := H; replace H := ife H; obtain ⟨c66b0, c66b1, H⟩ := H; obtain ⟨y152, hy152⟩ : ∃ y_ : List Int, y_ = (x11_3.take ((ji63) : Int).toNat) := ⟨_, rfl⟩; rw [← hy152] at H; have Ny152 := ak hy152; clear hy152; replace H := ifd H; obtain ⟨c67b0, H⟩ := H; replace H := ifd H; obtain ⟨c68b0, H⟩ := H; have H' := ak H; clear H; obtain ⟨Ao69, co69, eo69⟩ := Kd.R_slice HO_11.out; subst eo69; have p151 : 0 ≤ ((ji63) : Int) := oda; have q151 : (ji63) < (x11_3.length : Int) := oda; obtain ⟨ad151, e151, hx151_0⟩ := Kd.at_int (Kd.R_reads' HO_11.out).2.2 (ji63) p151 q151; cases e151; replace p151 := eq_true p151; replace q151 := eq_true q151; have q70 : ((ji63) : Int) ≤ ((x11_3.length : Int) : Int) := oda; obtain ⟨i070, hi070, _, hsz70, _⟩ := info_parts info3; have hcut70 := cut_to (P := Try.prog) 62 3 .i64 Try.underlying62 hi070 (some ad151) x11_3.length co69 (ji63) (oda) q70 (Kd.R_reads' HO_11.out).2.1
            have hr70 := Kd.R_take (m := ((ji63) : Int).toNat) HO_11.out (by omega)
            have hy70 : y152.length = ((ji63) : Int).toNat := (by rw [Ny152.out, List.length_take]; omega)
            rw [← Ny152.out] at hr70
            rw [← hy70] at hr70 hcut70
            clear hy70 hi070 hsz70 HO_11; have HO154 := ak hr70; clear hr70; replace q70 := eq_true q70; obtain ⟨Ao71, co71, eo71⟩ := Kd.S_slice HO_5.out; subst eo71; have p155 : 0 ≤ ((rd x11_3 (ji63)) : Int) := oda; have q155 : (rd x11_3 (ji63)) < (x5_1.length : Int) := oda; obtain ⟨ad155, A155_0, c155_0, e155, hx155_0, hl155_0, hi155_0⟩ := at_L2 (Kd.S_reads' HO_5.out).2.2 (rd x11_3 (ji63)) p155 q155; cases e155
            obtain ⟨ce155, hce155, hMe155, hcc155⟩ := Kd.S_get HO_5.out [] (rd x11_3 (ji63)) p155 (by first | exact q155 | exact oda | (have e_ := (Kd.S_reads' HO_5.out).1; omega))
            obtain ⟨ve155_0, rfl, ge155_0⟩ := hMe155; have hv155_0 := hcc155 0 _ rfl; rw [Nat.add_zero, show ((Kd.slice 3 (Kd.int .i64))).sz = 1 from rfl, Nat.mul_one] at hv155_0; replace hv155_0 := Option.some.inj (hv155_0.symm.trans hx155_0); rw [hv155_0] at ge155_0; have HL155_0 := ak (show Kd.R (Kd.int .i64) 3 _ _ _ _ (rd_L2 x5_1 (rd x11_3 (ji63))) from ge155_0); clear hv155_0 ge155_0; have HX155_0 := ak hx155_0; clear hcc155 hce155; have HR155_0 := ak hi155_0; have HC155_0 := ak hl155_0; clear hi155_0 hl155_0; replace p155 := eq_true p155; replace q155 := eq_true q155
            go_wp2
            go_loopg [11, 97] k3 (fun kq v11 v97 w' => ∃ (x8_4 : List Int) (x11_4 : List Int) (x97_4 : Int), v97 = .int .i64 x97_4 ∧ Aside0 (walk_Parts.l3 kq x5_1 x8_4 x9_2 x11_4 a0_0 x64_2 (rd_L2 x5_1 (rd x11_3 (ji63))) ((rd_L2 x5_1 (rd x11_3 (ji63))).length : Int) x97_4 = some (r1, r2)) ∧ Aside0 (kq ≤ k3) ∧ Aside0 (Kd.S (Kd.slice 3 (Kd.int .i64)) 62 w' w.heap.size (fun k_ => some k_ ≠ ((.slice (some ⟨go56, 0, none⟩) x8_3.length co57) : Value).ownBlock ∧ some k_ ≠ (v11 : Value).ownBlock) (.slice (some ad155) x5_1.length co71) x5_1) ∧ Aside0 (Kd.R (Kd.int .i64) 3 w' w.heap.size (fun k_ => some k_ ≠ ((.slice (some ⟨go56, 0, none⟩) x8_3.length co57) : Value).ownBlock ∧ some k_ ≠ (v11 : Value).ownBlock) (.slice A155_0 (rd_L2 x5_1 (rd x11_3 (ji63))).length c155_0) (rd_L2 x5_1 (rd x11_3 (ji63)))) ∧ Aside0 (Kd.R (Kd.int .i64) 3 w' w.heap.size (fun k_ => some k_ ≠ (v11 : Value).ownBlock) (.slice (some ⟨go56, 0, none⟩) x8_3.length co57) x8_4) ∧ Aside0 (Kd.R (Kd.int .i64) 3 w' w.heap.size (fun k_ => some k_ ≠ ((.slice (some ⟨go56, 0, none⟩) x8_3.length co57) : Value).ownBlock) v11 x11_4) ∧ Aside0 (w'.heap[gb124]? = some (.cells #[.int .i64 a0_0, (.slice A0_1 l0_1.length c0_1)] 24 (0, 0))) ∧ Aside0 (w'.heap[gb127]? = some (.cells #[.int .i64 t125, .int .i64 t126] 53 (0, 0))) ∧ Aside0 (Below w.heap.size w w'))
            case atStart => exact ⟨(x8_3), (y152), (0), (by first | rfl | (simp [*]; done)), H', ⟨Nat.le_refl _⟩, ⟨by (try simp only [hl8_3]); exact sx HO_5.out⟩, ⟨by (try simp only [hl8_3]); (with_reducible repeat (first | apply Kd.R_alloc | apply Kd.R_drewN | apply Kd.R_drew)); exact (Kd.R_mono HL155_0.out (fun _ hk_ => hk_.1))⟩, ⟨by (try simp only [hl8_3]); exact rx HO_8.out⟩, ⟨by (try simp only [hl8_3]); exact rx HO154.out⟩, ⟨by (try simp only [hl8_3]); exact bx BK124.out⟩, ⟨by (try simp only [hl8_3]); exact bx BK127.out⟩, ⟨lb⟩⟩
            case round =>
             clear H'; obtain ⟨x8_4, x11_4, x97_4, rfl, HA, HK4, HO_5, HL155_0, HO_8, HO_11, BK124, BK127, HB⟩ := hrel; have hl8_4 := (Kd.R_reads' HO_8.out).1; rw [hl8_4] at HO_8
             (try simp only [hl8_4])
             (try simp only [hl8_4] at BK124)
             (try simp only [hl8_4] at BK127)
             (try simp only [hl8_4] at HO_5)
             (try simp only [hl8_4] at HL155_0)
             (try simp only [hl8_4] at HO_11)
             cases gk with
             | zero => exact absurd HA.out (by simp [walk_Parts.l3])
             | succ k4 =>
              have H := HA.out; clear HA
              simp only [walk_Parts.l3] at H
              by_cases c72 : x97_4 < ((rd_L2 x5_1 (rd x11_3 (ji63))).length : Int)
              ·
               rw [if_pos c72] at H; have c72b0 := decide_eq_true c72; clear c72; replace H := ifd H; obtain ⟨c73b0, H⟩ := H; replace H := ifd H; obtain ⟨c74b0, H⟩ := H; replace H := ifd H; obtain ⟨c75b0, H⟩ := H; replace H := ifd H; obtain ⟨c76b0, H⟩ := H
               by_cases c77 : (rd x8_4 (rd (rd_L2 x5_1 (rd x11_3 (ji63))) x97_4)) < 0
               ·
                rw [if_pos c77] at H; have c77b0 := decide_eq_true c77; clear c77; obtain ⟨y158, hy158⟩ : ∃ y_ : List Int, y_ = (x8_4.set ((rd (rd_L2 x5_1 (rd x11_3 (ji63))) x97_4) : Int).toNat x9_2) := ⟨_, rfl⟩; rw [← hy158] at H; have Ny158 := ak hy158; clear hy158; replace H := ifn H; obtain ⟨c79, H⟩ := H; have LMc79 := ak c79; clear c79; obtain ⟨y159, hy159⟩ : ∃ y_ : List Int, y_ = (x11_4 ++ [rd (rd_L2 x5_1 (rd x11_3 (ji63))) x97_4]) := ⟨_, rfl⟩; rw [← hy159] at H; have Ny159 := ak hy159; clear hy159; have H' := ak H; clear H; have p156 : 0 ≤ (x97_4 : Int) := oda; have q156 : x97_4 < ((rd_L2 x5_1 (rd x11_3 (ji63))).length : Int) := oda; obtain ⟨ad156, e156, hx156_0⟩ := Kd.at_int (Kd.R_reads' HL155_0.out).2.2 x97_4 p156 q156; cases e156
                (try replace hx156_0 := hbc HB hx156_0)
                replace p156 := eq_true p156; replace q156 := eq_true q156; have p157 : 0 ≤ ((rd (rd_L2 x5_1 (rd x11_3 (ji63))) x97_4) : Int) := oda; have q157 : (rd (rd_L2 x5_1 (rd x11_3 (ji63))) x97_4) < (x8_4.length : Int) := oda; obtain ⟨ad157, e157, hx157_0⟩ := Kd.at_int (Kd.R_reads' HO_8.out).2.2 (rd (rd_L2 x5_1 (rd x11_3 (ji63))) x97_4) p157 q157
                obtain rfl : (⟨go56, 0, none⟩ : Addr) = ad157 := (by injection e157)
                (first | simp only [add_plain] at hx157_0 | simp only [add_at] at hx157_0 | simp only [Addr.add, Nat.zero_add] at hx157_0 | skip)
                replace p157 := eq_true p157; replace q157 := eq_true q157; have p78 : 0 ≤ ((rd (rd_L2 x5_1 (rd x11_3 (ji63))) x97_4) : Int) := oda; have q78 : ((rd (rd_L2 x5_1 (rd x11_3 (ji63))) x97_4) : Int) < ((x8_4.length : Int) : Int) := oda; obtain ⟨hx78_0, hf78_0⟩ := Kd.R_celln 0 HO_8.out ((rd (rd_L2 x5_1 (rd x11_3 (ji63))) x97_4) : Int) p78 q78; replace p78 := eq_true p78; replace q78 := eq_true q78; have HP80 := Kd.R_putg HO_8.out ((rd (rd_L2 x5_1 (rd x11_3 (ji63))) x97_4) : Int) x9_2
                go_wp2_with (first | ((with_reducible refine gate_store (t := 3) (p := 109) rfl ?_); refine store_event (t := 3) (p := 109) (v := ?vo_w81) (w1 := (wr.setCell ⟨go56, ((rd (rd_L2 x5_1 (rd x11_3 (ji63))) x97_4) : Int).toNat, none⟩ (.int .i64 x9_2))) ?hg ?ho ?hn ?hr ?_; (case ho => rfl); (case hg => rfl); (case hn => rfl); (case hr => first | (go_simp; done) | (go_simp; rfl)); intro w81 hw; have hg : wr.grownBy w81 (some go56) := (by rw [hw]; exact HP80.2); have hp_ : Kd.R (Kd.int .i64) 3 w81 w.heap.size (fun k_ => some k_ ≠ (u11 : Value).ownBlock) (.slice (some ⟨go56, 0, none⟩) x8_4.length co57) y158 := (by rw [hw, Ny158.out]; exact HP80.1); clear HP80; have n0_ := ak (Kd.S_after (v := (.slice (some ⟨go56, 0, none⟩) x8_4.length co57)) (v1 := (.slice (some ⟨go56, 0, none⟩) x8_4.length co57)) (ok := (fun k_ => some k_ ≠ (u11 : Value).ownBlock)) (by exact sx (Kd.S_mono HO_5.out (fun _ hk => ⟨hk.2, hk.1⟩))) hg (.inl rfl)); have n0_L := ak (Kd.R_after (v := (.slice (some ⟨go56, 0, none⟩) x8_4.length co57)) (v1 := (.slice (some ⟨go56, 0, none⟩) x8_4.length co57)) (ok := (fun k_ => some k_ ≠ (u11 : Value).ownBlock)) (by exact rx (Kd.R_mono HL155_0.out (fun _ hk => ⟨hk.2, hk.1⟩))) hg (.inl rfl)); have n1_ := ak (hp_); have n2_ := ak (Kd.R_after (v := (.slice (some ⟨go56, 0, none⟩) x8_4.length co57)) (v1 := (.slice (some ⟨go56, 0, none⟩) x8_4.length co57)) (ok := (fun _ => True)) (by exact rx (Kd.R_mono HO_11.out (fun _ hk => ⟨trivial, hk⟩))) hg (.inl rfl)); have n3_ := ak (blk_grown (bx BK124.out) hg (Kd.R_ne HO_8.out BK124.out (by decide))); have n4_ := ak (blk_grown (bx BK127.out) hg (Kd.R_ne HO_8.out BK127.out (by decide))); have n5_ := ak ((by rw [hw]; exact below_set (HB.out) GB56.out : Below w.heap.size w w81)); clear HO_5; clear HL155_0; clear HO_8; clear HO_11; clear BK124; clear BK127; clear HB; have HO_5 := n0_; have HL155_0 := n0_L; have HO_8 := n1_; have HO_11 := n2_; have BK124 := n3_; have BK127 := n4_; have HB := n5_; clear n0_ n1_ n2_ n3_ n4_ n5_; clear hg hw hp_) | ((with_reducible refine gate_builtin (b := .append) (xs := #[.tmp 110, .tmp 112]) rfl ?_); at_builtin; refine Kd.R_append (Kd.int .i64) (w0 := w) w.heap.size rfl (.tmp 110) (.tmp 112) 62 3 (.int .i64 0) 8 rfl Try.underlying62 info3 rfl (by decide) (by omega) u11 x11_4 (rd (rd_L2 x5_1 (rd x11_3 (ji63))) x97_4) [.int .i64 (rd (rd_L2 x5_1 (rd x11_3 (ji63))) x97_4)] (fun k_ => some k_ ≠ (.slice (some ⟨go56, 0, none⟩) x8_4.length co57 : Value).ownBlock) (fun _ => False) rfl rfl ?aP (fun _ hk => hk.elim) ?aF ?aO ?aB ?aS ?aL ?_; (case aP => exact rfl); (case aB => exact lb); (case aF => exact (fun k_ hk => Kd.fresh' (Kd.R_lt (rx HO_8.out)) k_ hk)); (case aO => exact (by exact rx (Kd.R_mono HO_11.out (fun _ hk => hk.2)))); (case aS => exact (below_size lb)); (case aL => have := LMc79.out; omega); intro v160 w82 ho hb hg hat; rw [← Ny159.out] at ho; have n0_ := ak (Kd.S_after (ok := (fun k_ => some k_ ≠ (.slice (some ⟨go56, 0, none⟩) x8_4.length co57 : Value).ownBlock)) (by exact sx (Kd.S_mono HO_5.out (fun _ hk => ⟨hk.2, hk.1⟩))) hg hat); have n0_L := ak (Kd.R_after (ok := (fun k_ => some k_ ≠ (.slice (some ⟨go56, 0, none⟩) x8_4.length co57 : Value).ownBlock)) (by exact rx (Kd.R_mono HL155_0.out (fun _ hk => ⟨hk.2, hk.1⟩))) hg hat); have n1_ := ak (Kd.R_after (ok := (fun _ => True)) (by exact rx (Kd.R_mono HO_8.out (fun _ hk => ⟨trivial, hk⟩))) hg hat); have n2_ := ak (blk_grown (bx BK124.out) hg (Kd.R_ne HO_11.out BK124.out (by decide))); have n3_ := ak (blk_grown (bx BK127.out) hg (Kd.R_ne HO_11.out BK127.out (by decide))); have n4_ := ak (hb); have n5_ := ak (ho); clear HO_5; clear HL155_0; clear HO_8; clear BK124; clear BK127; clear HB; clear HO_11; have HO_5 := n0_; have HL155_0 := n0_L; have HO_8 := n1_; have BK124 := n2_; have BK127 := n3_; have HB := n4_; have HO161 := n5_; clear n0_ n1_ n2_ n3_ n4_ n5_; clear ho hb hg hat))
                (try simp only [← hl8_4])
                go_roundg k4
                case measure => have := HK1.out; have := HK2.out; have := HK3.out; have := HK4.out; omega
                case rel => exact ⟨(y158), (y159), (wrap64 (x97_4 + 1)), (by first | rfl | (simp [*]; done)), H', ⟨by have := HK1.out; have := HK2.out; have := HK3.out; have := HK4.out; omega⟩, ⟨by (try simp only [hl8_3]); (try simp only [hl8_4]); exact sx HO_5.out⟩, ⟨by (try simp only [hl8_3]); (try simp only [hl8_4]); exact rx HL155_0.out⟩, ⟨by (try simp only [hl8_3]); (try simp only [hl8_4]); exact rx (Kd.R_mono HO_8.out (fun _ hk => hk.2))⟩, ⟨by (try simp only [hl8_3]); (try simp only [hl8_4]); exact rx HO161.out⟩, ⟨by (try simp only [hl8_3]); (try simp only [hl8_4]); exact bx BK124.out⟩, ⟨by (try simp only [hl8_3]); (try simp only [hl8_4]); exact bx BK127.out⟩, ⟨lb⟩⟩
               ·
                rw [if_neg c77] at H; have c77b0 : decide ((rd x8_4 (rd (rd_L2 x5_1 (rd x11_3 (ji63))) x97_4)) < 0) = false := decide_eq_false c77; clear c77; have H' := ak H; clear H; have p156 : 0 ≤ (x97_4 : Int) := oda; have q156 : x97_4 < ((rd_L2 x5_1 (rd x11_3 (ji63))).length : Int) := oda; obtain ⟨ad156, e156, hx156_0⟩ := Kd.at_int (Kd.R_reads' HL155_0.out).2.2 x97_4 p156 q156; cases e156
                (try replace hx156_0 := hbc HB hx156_0)
                replace p156 := eq_true p156; replace q156 := eq_true q156; have p157 : 0 ≤ ((rd (rd_L2 x5_1 (rd x11_3 (ji63))) x97_4) : Int) := oda; have q157 : (rd (rd_L2 x5_1 (rd x11_3 (ji63))) x97_4) < (x8_4.length : Int) := oda; obtain ⟨ad157, e157, hx157_0⟩ := Kd.at_int (Kd.R_reads' HO_8.out).2.2 (rd (rd_L2 x5_1 (rd x11_3 (ji63))) x97_4) p157 q157
                obtain rfl : (⟨go56, 0, none⟩ : Addr) = ad157 := (by injection e157)
                (first | simp only [add_plain] at hx157_0 | simp only [add_at] at hx157_0 | simp only [Addr.add, Nat.zero_add] at hx157_0 | skip)
                replace p157 := eq_true p157; replace q157 := eq_true q157
                go_wp2
                (try simp only [← hl8_4])
                go_roundg k4
                case measure => have := HK1.out; have := HK2.out; have := HK3.out; have := HK4.out; omega
                case rel => exact ⟨(x8_4), (x11_4), (wrap64 (x97_4 + 1)), (by first | rfl | (simp [*]; done)), H', ⟨by have := HK1.out; have := HK2.out; have := HK3.out; have := HK4.out; omega⟩, ⟨by (try simp only [hl8_3]); (try simp only [hl8_4]); exact sx HO_5.out⟩, ⟨by (try simp only [hl8_3]); (try simp only [hl8_4]); exact rx HL155_0.out⟩, ⟨by (try simp only [hl8_3]); (try simp only [hl8_4]); exact rx HO_8.out⟩, ⟨by (try simp only [hl8_3]); (try simp only [hl8_4]); exact rx HO_11.out⟩, ⟨by (try simp only [hl8_3]); (try simp only [hl8_4]); exact bx BK124.out⟩, ⟨by (try simp only [hl8_3]); (try simp only [hl8_4]); exact bx BK127.out⟩, ⟨lb⟩⟩
              ·
               rw [if_neg c72] at H; have c72b0 : decide (x97_4 < ((rd_L2 x5_1 (rd x11_3 (ji63))).length : Int)) = false := decide_eq_false c72; clear c72; have H' := ak H; clear H
               go_wp2
               (try simp only [← hl8_3, ← hl8_4])
               go_roundg k4
               case measure => have := HK1.out; have := HK2.out; have := HK3.out; have := HK4.out; omega
               case rel => exact ⟨(x8_4), (x11_4), H', ⟨by have := HK1.out; have := HK2.out; have := HK3.out; have := HK4.out; omega⟩, ⟨by (try simp only [hl8_3]); (try simp only [hl8_4]); exact sx HO_5.out⟩, ⟨by (try simp only [hl8_3]); (try simp only [hl8_4]); exact rx HO_8.out⟩, ⟨by (try simp only [hl8_3]); (try simp only [hl8_4]); exact rx HO_11.out⟩, ⟨by (try simp only [hl8_3]); (try simp only [hl8_4]); exact bx BK124.out⟩, ⟨by (try simp only [hl8_3]); (try simp only [hl8_4]); exact bx BK127.out⟩, ⟨lb⟩⟩
           ·
            rw [if_neg c62] at H; have c62b0 : decide (0 < (x11_3.length : Int)) = false := decide_eq_false c62
            have c62b1 : decide (0 < x11_3.length) = false := decide_eq_false (by omega)
            clear c62; have H' := ak H; clear H; obtain ⟨Ao83, co83, eo83⟩ := Kd.R_slice HO_11.out; subst eo83
            go_wp2
            (try simp only [← hl8_3])
            go_roundg k3
            case measure => have := HK1.out; have := HK2.out; have := HK3.out; omega
            case rel => exact ⟨(x8_3), (wrap64 (x9_2 + 1)), (wrap64 (x64_2 + 1)), (by first | rfl | (simp [*]; done)), (by first | rfl | (simp [*]; done)), H', ⟨by have := HK1.out; have := HK2.out; have := HK3.out; omega⟩, ⟨by (try simp only [hl8_3]); exact sx (Kd.S_mono HO_5.out (fun _ hk => hk.1))⟩, ⟨by (try simp only [hl8_3]); exact rx (Kd.R_mono HO_8.out (fun _ hk => trivial))⟩, ⟨by (try simp only [hl8_3]); exact bx BK124.out⟩, ⟨by (try simp only [hl8_3]); exact bx BK127.out⟩, ⟨lb⟩⟩
       ·
        rw [if_neg c51] at H; have c51b0 : decide (x64_2 < a0_0) = false := decide_eq_false c51; clear c51
        simp only [Option.some.injEq, Prod.mk.injEq] at H
        obtain ⟨rfl, rfl⟩ := H
        go_wp2
        go_ret2
        exact ⟨_, by first | rfl | (simp [errW_none, errW_some] <;> rfl) | (simp [*, errW_none, errW_some] <;> rfl), by exact rx HO_8.out, lb⟩
 ·
  rw [if_neg c3] at H; have c3b0 : (t125 == 0) = false := beq_eq_false_iff_ne.mpr c3; have c3b1 : (t125 != 0) = true := bne_iff_ne.mpr c3
  simp only [Option.some.injEq, Prod.mk.injEq] at H
  obtain ⟨rfl, rfl⟩ := H
  go_enter Try.func31, Try.ntmps31
  try go_wp2_with (first | ((with_reducible refine gate_dst (N := 1) rfl ?_); refine box_event ?hg (N := 1) ?hd (cs := #[.int .i64 a0_0, .slice A0_1 l0_1.length c0_1]) (t := 24) ?hr ?_; (case hd => rfl); (case hg => rfl); (case hr => first | (go_simp; done) | (go_simp; rfl)); intro gb124 hg w84 hbox hb; have n_ := a4 (below_step lb hb) hbox (gw w hg) (gw w hg); clear HB; obtain ⟨HB, BK124, GW124, GE124⟩ := n_; clear hb hbox hg; have hcz85_0 := bc0 BK124; have hcz85_1 := bc1 BK124; have hfz85_0 := bf BK124 0; have hfz85_1 := bf BK124 1) | ((with_reducible refine gate_callee (f := 20) rfl ?_); refine goesZ (some 16) rfl rfl Try.func20 (by kernel_rfl) rfl #[.agg #[.int .i64 a0_0, .slice A0_1 l0_1.length c0_1]] rfl ?_; (with_reducible refine (graph_Check.calls k a0_0 _ _ l0_1 t125 t126 _ ?side1 ?side2 A2.out).mono ?_); (case side1 => exact Kd.C_below HR0_1.out lb); (case side2 => exact HC0_1.out); rintro e w86 ⟨rfl, hb⟩; refine ⟨_, rfl, ?_⟩; have n_ := a2 (blk_below (bx BK124.out) hb) (below_step lb hb); clear BK124 HB; obtain ⟨BK124, HB⟩ := n_; (try clear hb); (try clear hb2); (try clear hk); (try clear hi)) | ((with_reducible refine gate_dst (N := 4) rfl ?_); refine box_event ?hg (N := 4) ?hd (cs := #[.int .i64 0, .int .i64 0]) (t := 53) ?hr ?_; (case hd => rfl); (case hg => rfl); (case hr => first | (go_simp; done) | (go_simp; rfl)); intro gb127 hg w87 hbox hb; have n_ := a7 (blk_below (bx BK124.out) hb) (below_step lb hb) hbox (gw w hg) (gw w hg) (nl hg BK124) (nr hg BK124); clear BK124 HB; obtain ⟨BK124, HB, BK127, GW127, GE127, NB124_127, NB127_124⟩ := n_; clear hb hbox hg; have hnb88 := NB127_124.out; have hnc88 := NB124_127.out; have hcz89_0 := bc0 BK127; have hcz89_1 := bc1 BK127; have hfz89_0 := bf BK127 0; have hfz89_1 := bf BK127 1))
  have n0_ : Aside0 (((w87.setCell ⟨gb127, 0, none⟩ (.int .i64 t125)).setCell ⟨gb127, 1, none⟩ (.int .i64 t126)).heap[gb124]? = some (.cells #[.int .i64 a0_0, .slice A0_1 l0_1.length c0_1] 24 (0, 0))) := ⟨by (with_reducible repeat (first | refine blk_drewN ?_ _ | refine blk_drew ?_ | refine blk_alloc ?_ _)); refine blk_far ?_ NB124_127.out _; (with_reducible repeat (first | refine blk_drewN ?_ _ | refine blk_drew ?_ | refine blk_alloc ?_ _)); refine blk_far ?_ NB124_127.out _; exact bx BK124.out⟩
  have n1_ : Aside0 (((w87.setCell ⟨gb127, 0, none⟩ (.int .i64 t125)).setCell ⟨gb127, 1, none⟩ (.int .i64 t126)).heap[gb127]? = some (.cells #[.int .i64 t125, .int .i64 t126] 53 (0, 0))) := ⟨by (with_reducible repeat (first | refine blk_drewN ?_ _ | refine blk_drew ?_ | refine blk_alloc ?_ _)); refine blk_put (cs := #[.int .i64 t125, .int .i64 0]) ?_ 1 _ rfl; (with_reducible repeat (first | refine blk_drewN ?_ _ | refine blk_drew ?_ | refine blk_alloc ?_ _)); refine blk_put (cs := #[.int .i64 0, .int .i64 0]) ?_ 0 _ rfl; exact bx BK127.out⟩
  have n2_ : Aside0 (Below w.heap.size w ((w87.setCell ⟨gb127, 0, none⟩ (.int .i64 t125)).setCell ⟨gb127, 1, none⟩ (.int .i64 t126))) := ⟨lb⟩
  (try clear BK124)
  (try clear BK127)
  (try clear HB)
  generalize ((w87.setCell ⟨gb127, 0, none⟩ (.int .i64 t125)).setCell ⟨gb127, 1, none⟩ (.int .i64 t126)) = w90 at n0_ n1_ n2_ ⊢
  have BK124 := n0_; have BK127 := n1_; have HB := n2_; clear n0_ n1_ n2_; have n_ := a3 (blk_drew BK124.out) (blk_drew BK127.out) (below_drew1 HB.out); clear BK124 BK127 HB; obtain ⟨BK124, BK127, HB⟩ := n_
  refine start_ (n := 4) (S := fun w' => w'.cell? ⟨gb127, 0, none⟩ = some (.int .i64 t125) ∧ w'.cell? ⟨gb127, 1, none⟩ = some (.int .i64 t126)) (ds := []) #[F, F, F, F] (by kernel_rfl) rfl rfl ⟨(blk_cell BK127.out 0).trans rfl, (blk_cell BK127.out 1).trans rfl⟩ (fun hHeld => ?_)
  generalize w90.drew = w91 at BK124 BK127 HB hHeld ⊢
  refine pure_ (i := 0) (N := some 20) (v := ?_) (a' := ?_) #[T, F, F, F] rfl rfl (by kernel_rfl) (fun _ _ _ h => h) (Or.inl ⟨by rfl, ?_⟩) ?_ ?_; rotate_left; intro w'; go_simp; with_reducible rfl; rotate_left; simp only [Act.put, sA, sZ, sS, i64_w, i32_w]; rfl
  refine pure_ (i := 2) (N := some 2) (v := ?_) (a' := ?_) #[T, F, T, F] rfl rfl (by kernel_rfl) (fun _ _ _ h => h) (Or.inl ⟨by rfl, ?_⟩) ?_ ?_; rotate_left; intro w'; go_simp; with_reducible rfl; rotate_left; simp only [Act.put, sA, sZ, sS, i64_w, i32_w]; rfl
  refine take_ (i := 1) (N := some 21) (v := ?_) (a' := ?_) #[T, T, T, F] rfl rfl (by kernel_rfl) (fun _ _ _ h => h) (Or.inl ⟨by rfl, ?_⟩) hHeld ?_ ?_; rotate_left; rintro w' ⟨s0, s1⟩; go_simp; with_reducible rfl; rotate_left; simp only [Act.put, sA, sZ, sS, i64_w, i32_w]; rfl
  refine pure_ (i := 3) (N := some 3) (v := ?_) (a' := ?_) #[T, T, T, T] rfl rfl (by kernel_rfl) (fun _ _ _ h => h) (Or.inl ⟨by rfl, ?_⟩) ?_ ?_; rotate_left; intro w'; go_simp; with_reducible rfl; rotate_left; simp only [Act.put, sA, sZ, sS, i64_w, i32_w]; rfl
  refine done_ (by kernel_rfl) ?_
  try go_wp2
  go_ret2
  exact ⟨_, by first | rfl | (simp [errW_none, errW_some] <;> rfl) | (simp [*, errW_none, errW_some] <;> rfl), by first | exact Kd.R_nil _ _ _ _ _ | exact Kd.N_nil _ _ _ _ _ | exact Kd.V_nil _ _ _ _ _ | exact Kd.Q_nil _ _ _ _ _ | exact Kd.S_nil _ _ _ _ _, lb⟩

end Go.Proofs.Ytplbkggdnonfbaa.Q
