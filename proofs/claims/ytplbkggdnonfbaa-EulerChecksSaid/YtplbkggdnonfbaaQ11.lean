-- PRINTED by print.py (a twelfth state) out of the translation. Not trusted: Lean checks it.
import Derived.Test.YtplbkggdnonfbaaQ0
import Derived.Test.YtplbkggdnonfbaaQ3
import Derived.Test.YtplbkggdnonfbaaQ4
import Derived.Test.YtplbkggdnonfbaaQ8
import Derived.Test.YtplbkggdnonfbaaQ9
import Derived.Test.YtplbkggdnonfbaaQ10
namespace Go.Proofs.Ytplbkggdnonfbaa.Q
open Go.RowKit Go.Proofs.YtplbkggdnonfbaaW.PrintWords Go.Proofs.YtplbkggdnonfbaaW.PrintLast Go.Proofs.YtplbkggdnonfbaaW.PrintMore
attribute [local go_sem] max2_int min2_int max_two min_two max_three min_three max_four min_four   -- for this text's walks alone
set_option linter.unusedVariables false
set_option linter.unusedSimpArgs false

/-! ### euler_Tour: function 9 -/
def euler_Tour.l0 : Nat → Bool → Int → List (List (S51)) → List (S45) → Int → Int → Int → List (S45) → Option (Int × (List (S51)) × Int × Int)
  | 0, _, _, _, _, _, _, _, _ => none
  | k + 1, x1, x10, x13, x51, x52, x53, x248000, x248001 => if x53 < x52 then (if 0 ≤ x53 then (if x53 < (x51.length : Int) then (if 0 ≤ ((rd_T45 x51 x53).f0) then (if ((rd_T45 x51 x53).f0) < (x13.length : Int) then (if (rd_L5 x13 ((rd_T45 x51 x53).f0)).length < 8796093022208 then ((some (x13.set (((rd_T45 x51 x53).f0) : Int).toNat ((rd_L5 x13 ((rd_T45 x51 x53).f0)) ++ [(⟨x53, false⟩ : S51)]) : List (List (S51)))).bind fun y266 => (if x1 = true then (euler_Tour.l0 k x1 x10 y266 x51 x52 (wrap64 (x53 + 1)) x248000 x248001) else (if 0 ≤ ((rd_T45 x51 x53).f1) then (if ((rd_T45 x51 x53).f1) < (x13.length : Int) then (if (rd_L5 y266 ((rd_T45 x51 x53).f1)).length < 8796093022208 then (euler_Tour.l0 k x1 x10 (y266.set (((rd_T45 x51 x53).f1) : Int).toNat ((rd_L5 y266 ((rd_T45 x51 x53).f1)) ++ [(⟨x53, true⟩ : S51)])) x51 x52 (wrap64 (x53 + 1)) x248000 x248001) else (none)) else (none)) else (none)))) else (none)) else (none)) else (none)) else (none)) else (none)) else ((euler_circuit.f k x248000 x248001 x10 x13).bind fun bt272 => (some (x10, bt272.1, 0, 0)))
def euler_Tour.f (k : Nat) (a0_0 : Int) (l0_1 : List (S45)) (a1 : Bool) : Option (Int × (List (S51)) × Int × Int) := (graph_Check.f k a0_0 l0_1).bind fun bt249 => (if bt249.1 = 0 then ((euler_uneven.f k a0_0 l0_1 a1).bind fun bt252 => (if bt252.2 = true then (some (0, ([] : List (S51)), bt252.1, 90)) else ((euler_apart.f k a0_0 l0_1).bind fun bt254 => (if bt254.2.2 = true then (some (0, ([] : List (S51)), bt254.2.1, 91)) else (if (l0_1.length : Int) = 0 then (some (0, ([] : List (S51)), 0, 0)) else (if 0 ≤ a0_0 then (if (a0_0 : Int).toNat ≤ 11728124029610 then (euler_Tour.l0 k a1 bt254.1 (List.replicate (a0_0 : Int).toNat []) l0_1 (l0_1.length : Int) 0 a0_0 l0_1) else (none)) else (none))))))) else (some (0, ([] : List (S51)), 0, bt249.1)))
theorem euler_Tour.mono_l : ∀ k, (∀ y0 y1 y2 y3 y4 y5 y6 y7, LeO (euler_Tour.l0 k y0 y1 y2 y3 y4 y5 y6 y7) (euler_Tour.l0 (k + 1) y0 y1 y2 y3 y4 y5 y6 y7))
  | 0 => fun _ _ _ _ _ _ _ _ r h => by simp [euler_Tour.l0] at h
  | k + 1 => by
    have ih0 := euler_Tour.mono_l k
    · intro y0 y1 y2 y3 y4 y5 y6 y7
      unfold euler_Tour.l0
      repeat' first
      | (with_reducible exact ih0 _ _ _ _ _ _ _ _)
      | (with_reducible exact euler_apart.mono _ _ _)
      | (with_reducible exact euler_circuit.mono _ _ _ _ _)
      | (with_reducible exact euler_uneven.mono _ _ _ _)
      | (with_reducible exact graph_Check.mono _ _ _)
      | (with_reducible exact LeO.refl _)
      | (with_reducible exact LeO.none _)
      | (with_reducible refine LeO.ite ?_ ?_)
      | (with_reducible refine LeO.bind ?_ (fun _ => ?_))
      | exact ih0 _ _ _ _ _ _ _ _
      | exact euler_apart.mono _ _ _
      | exact euler_circuit.mono _ _ _ _ _
      | exact euler_uneven.mono _ _ _ _
      | exact graph_Check.mono _ _ _
      | exact LeO.none _
      | refine LeO.ite ?_ ?_
      | refine LeO.bind ?_ (fun _ => ?_)
theorem euler_Tour.mono : ∀ a0 a1 a2 k, LeO (euler_Tour.f k a0 a1 a2) (euler_Tour.f (k + 1) a0 a1 a2) := by
  intro a0 a1 a2 k
  have ih0 := euler_Tour.mono_l k
  unfold euler_Tour.f
  repeat' first
      | (with_reducible exact ih0 _ _ _ _ _ _ _ _)
      | (with_reducible exact euler_apart.mono _ _ _)
      | (with_reducible exact euler_circuit.mono _ _ _ _ _)
      | (with_reducible exact euler_uneven.mono _ _ _ _)
      | (with_reducible exact graph_Check.mono _ _ _)
      | (with_reducible exact LeO.refl _)
      | (with_reducible exact LeO.none _)
      | (with_reducible refine LeO.ite ?_ ?_)
      | (with_reducible refine LeO.bind ?_ (fun _ => ?_))
      | exact ih0 _ _ _ _ _ _ _ _
      | exact euler_apart.mono _ _ _
      | exact euler_circuit.mono _ _ _ _ _
      | exact euler_uneven.mono _ _ _ _
      | exact graph_Check.mono _ _ _
      | exact LeO.none _
      | refine LeO.ite ?_ ?_
      | refine LeO.bind ?_ (fun _ => ?_)
def euler_Tour.T16 : Bool × List (List Nat × List Nat) := (true, [([], []), ([], []), ([1], [1]), ([], []), ([], []), ([4], [4]), ([3, 5], [3, 5]), ([6], [6]), ([], []), ([8], [8]), ([9], [9]), ([7, 10], [7, 10]), ([0, 2, 0, 1, 2, 3, 4, 5, 6, 7, 8, 9, 10, 11], [0, 2]), ([12, 11, 11, 0, 1, 2, 3, 4, 5, 6, 7, 8, 9, 10, 11], [11, 12])])
def euler_Tour.B16 : List Nat := [0, 0, 2, 0, 0, 16, 56, 120, 0, 256, 768, 2040, 4095, 8191]
theorem euler_Tour.tab16 : rtab .any (opsOf Try.f9 16) = euler_Tour.T16 := by kernel_rfl
theorem euler_Tour.bits16 : waitsOk euler_Tour.T16.2 euler_Tour.B16 = true := by kernel_rfl
def euler_Tour.T18 : Bool × List (List Nat × List Nat) := (true, [([], []), ([], []), ([1], [1]), ([], []), ([], []), ([4], [4]), ([3, 5], [3, 5]), ([6], [6]), ([], []), ([8], [8]), ([9], [9]), ([7, 10], [7, 10]), ([0, 2, 0, 1, 2, 3, 4, 5, 6, 7, 8, 9, 10, 11], [0, 2]), ([12, 11, 11, 0, 1, 2, 3, 4, 5, 6, 7, 8, 9, 10, 11], [11, 12])])
def euler_Tour.B18 : List Nat := [0, 0, 2, 0, 0, 16, 56, 120, 0, 256, 768, 2040, 4095, 8191]
theorem euler_Tour.tab18 : rtab .any (opsOf Try.f9 18) = euler_Tour.T18 := by kernel_rfl
theorem euler_Tour.bits18 : waitsOk euler_Tour.T18.2 euler_Tour.B18 = true := by kernel_rfl
set_option maxHeartbeats 8000000 in
set_option maxRecDepth 100000 in
theorem euler_Tour.calls (k : Nat) (a0_0 : Int) (A0_1 : Option Addr) (c0_1 : Nat) (l0_1 : List (S45)) (a1 : Bool) (r1 : Int) (r2 : List (S51)) (r3 : Int) (r4 : Int) (w : World) (hr0_1 : Kd.C k45 w A0_1 l0_1.length l0_1) (hc0_1 : l0_1.length ≤ c0_1) (h : euler_Tour.f k a0_0 l0_1 a1 = some (r1, r2, r3, r4)) :
    Calls Try.prog 9 #[.agg #[.int .i64 a0_0, .slice A0_1 l0_1.length c0_1], .bool a1] w fun e w' => ∃ v1_ : Value, e = .returned (.tuple #[.agg #[.int .i64 r1, v1_], .int .i64 r3, .int .i64 r4]) ∧ Kd.R k51 51 w' w.heap.size (fun _ => True) v1_ r2 ∧ Below w.heap.size w w' := by
 have hu24 := Try.underlying24
 have hu28 := Try.underlying28
 have hu53 := Try.underlying53
 have hu45 := Try.underlying45
 have hu51 := Try.underlying51
 have HR0_1 := ak hr0_1
 have HC0_1 := ak hc0_1
 clear hr0_1 hc0_1
 have HB := ak (Below.refl w.heap.size w)
 have H : ((graph_Check.f k a0_0 l0_1).bind fun bt249 => (if bt249.1 = 0 then ((euler_uneven.f k a0_0 l0_1 a1).bind fun bt252 => (if bt252.2 = true then (some (0, ([] : List (S51)), bt252.1, 90)) else ((euler_apart.f k a0_0 l0_1).bind fun bt254 => (if bt254.2.2 = true then (some (0, ([] : List (S51)), bt254.2.1, 91)) else (if (l0_1.length : Int) = 0 then (some (0, ([] : List (S51)), 0, 0)) else (if 0 ≤ a0_0 then (if (a0_0 : Int).toNat ≤ 11728124029610 then (euler_Tour.l0 k a1 bt254.1 (List.replicate (a0_0 : Int).toNat []) l0_1 (l0_1.length : Int) 0 a0_0 l0_1) else (none)) else (none))))))) else (some (0, ([] : List (S51)), 0, bt249.1)))) = some (r1, r2, r3, r4) := h
 clear h
 replace H := Option.bind_eq_some_iff.mp H
 obtain ⟨⟨t249, t250⟩, A30, H⟩ := H
 replace H : (if t249 = 0 then ((euler_uneven.f k a0_0 l0_1 a1).bind fun bt252 => (if bt252.2 = true then (some (0, ([] : List (S51)), bt252.1, 90)) else ((euler_apart.f k a0_0 l0_1).bind fun bt254 => (if bt254.2.2 = true then (some (0, ([] : List (S51)), bt254.2.1, 91)) else (if (l0_1.length : Int) = 0 then (some (0, ([] : List (S51)), 0, 0)) else (if 0 ≤ a0_0 then (if (a0_0 : Int).toNat ≤ 11728124029610 then (euler_Tour.l0 k a1 bt254.1 (List.replicate (a0_0 : Int).toNat []) l0_1 (l0_1.length : Int) 0 a0_0 l0_1) else (none)) else (none))))))) else (some (0, ([] : List (S51)), 0, t249))) = some (r1, r2, r3, r4) := H
 have A3 := ak A30
 clear A30
 by_cases c4 : t249 = 0
 ·
  rw [if_pos c4] at H
  have c4b0 : (t249 == 0) = true := beq_iff_eq.mpr c4
  have c4b1 : (t249 != 0) = false := bne_eq_false_iff_eq.mpr c4
  clear c4
  replace H := Option.bind_eq_some_iff.mp H
  obtain ⟨⟨t252, t253⟩, A50, H⟩ := H
  replace H : (if t253 = true then (some (0, ([] : List (S51)), t252, 90)) else ((euler_apart.f k a0_0 l0_1).bind fun bt254 => (if bt254.2.2 = true then (some (0, ([] : List (S51)), bt254.2.1, 91)) else (if (l0_1.length : Int) = 0 then (some (0, ([] : List (S51)), 0, 0)) else (if 0 ≤ a0_0 then (if (a0_0 : Int).toNat ≤ 11728124029610 then (euler_Tour.l0 k a1 bt254.1 (List.replicate (a0_0 : Int).toNat []) l0_1 (l0_1.length : Int) 0 a0_0 l0_1) else (none)) else (none)))))) = some (r1, r2, r3, r4) := H
  have A5 := ak A50
  clear A50
  by_cases c6 : t253 = true
  ·
   subst c6
   have H1 : (some (0, ([] : List (S51)), t252, 90)) = some (r1, r2, r3, r4) := by rw [if_pos rfl] at H; exact H
   clear H
   have H := H1
   clear H1
   simp only [Option.some.injEq, Prod.mk.injEq] at H
   obtain ⟨rfl, rfl, rfl, rfl⟩ := H
   go_enter Try.func9, Try.ntmps9
   go_wp2_with (first | ((with_reducible refine gate_dst (N := 2) rfl ?_); refine box_event ?hg (N := 2) ?hd (cs := #[.int .i64 a0_0, .slice A0_1 l0_1.length c0_1]) (t := 24) ?hr ?_; (case hd => rfl); (case hg => rfl); (case hr => first | (go_simp; done) | (go_simp; rfl)); intro gb247 hg w7 hbox hb; have n0_ := ak (below_step lb hb); have n1_ := ak (hbox); have n2_ := ak ((by rw [hg]; exact (below_size lb) : w.heap.size ≤ gb247)); have n3_ := ak ((by rw [hg]; exact (below_size lb) : w.heap.size ≤ gb247)); clear HB; have HB := n0_; have BK247 := n1_; have GW247 := n2_; have GE247 := n3_; clear n0_ n1_ n2_ n3_; clear hb hbox hg) | ((with_reducible refine gate_dst (N := 4) rfl ?_); refine box_event ?hg (N := 4) ?hd (cs := #[.int .i64 0, .slice none 0 0]) (t := 28) ?hr ?_; (case hd => rfl); (case hg => rfl); (case hr => first | (go_simp; done) | (go_simp; rfl)); intro gb248 hg w8 hbox hb; have n0_ := ak (blk_below (bx BK247.out) hb); have n1_ := ak (below_step lb hb); have n2_ := ak (hbox); have n3_ := ak ((by rw [hg]; exact (below_size lb) : w.heap.size ≤ gb248)); have n4_ := ak ((by rw [hg]; exact (below_size lb) : w.heap.size ≤ gb248)); have n5_ := ak ((by rw [hg]; exact Nat.ne_of_lt (blk_lt (g := gb247) (o := .cells #[.int .i64 a0_0, .slice A0_1 l0_1.length c0_1] 24 (0, 0)) (bx BK247.out)) : gb247 ≠ gb248)); have n6_ := ak ((by rw [hg]; exact Nat.ne_of_gt (blk_lt (g := gb247) (o := .cells #[.int .i64 a0_0, .slice A0_1 l0_1.length c0_1] 24 (0, 0)) (bx BK247.out)) : gb248 ≠ gb247)); clear BK247; clear HB; have BK247 := n0_; have HB := n1_; have BK248 := n2_; have GW248 := n3_; have GE248 := n4_; have NB247_248 := n5_; have NB248_247 := n6_; clear n0_ n1_ n2_ n3_ n4_ n5_ n6_; clear hb hbox hg; have hnb9 := NB247_248.out; have hnc9 := NB248_247.out; have hcz10_0 : w8.cell? ⟨gb247, 0, none⟩ = some (.int .i64 a0_0) := (blk_cell BK247.out 0).trans rfl; have hcz10_1 : w8.cell? ⟨gb247, 1, none⟩ = some (.slice A0_1 l0_1.length c0_1) := (blk_cell BK247.out 1).trans rfl; have hfz10_0 := blk_frozen BK247.out 0; have hfz10_1 := blk_frozen BK247.out 1) | ((with_reducible refine gate_callee (f := 20) rfl ?_); refine goesL_ (some 17) rfl rfl Try.func20 (by kernel_rfl) rfl #[.agg #[.int .i64 a0_0, .slice A0_1 l0_1.length c0_1]] rfl (by (try simp only [List.map_toArray, List.map_cons, List.map_nil]); first | done | rfl | (simp only [List.length_drop, List.length_take]; rfl)) ?_; (with_reducible refine (graph_Check.calls k a0_0 _ _ l0_1 t249 t250 _ ?side1 ?side2 A3.out).mono ?_); (case side1 => repeat (first | exact (Kd.C_below HR0_1.out HB.out) | (with_reducible refine Kd.C_alloc ?_ _) | (with_reducible refine Kd.C_drewN ?_ _) | (with_reducible refine Kd.C_drew ?_))); (case side2 => exact HC0_1.out); rintro e w11 ⟨rfl, hb⟩; refine ⟨_, rfl, ?_⟩; have n0_ := ak (blk_below (bx BK247.out) hb); have n1_ := ak (blk_below (bx BK248.out) hb); have n2_ := ak (below_step lb hb); clear BK247; clear BK248; clear HB; have BK247 := n0_; have BK248 := n1_; have HB := n2_; clear n0_ n1_ n2_; (try clear hb); (try clear hb2); (try clear hk); (try clear hi)) | ((with_reducible refine gate_dst (N := 7) rfl ?_); refine box_event ?hg (N := 7) ?hd (cs := #[.int .i64 0, .int .i64 0]) (t := 53) ?hr ?_; (case hd => rfl); (case hg => rfl); (case hr => first | (go_simp; done) | (go_simp; rfl)); intro gb251 hg w12 hbox hb; have n0_ := ak (blk_below (bx BK247.out) hb); have n1_ := ak (blk_below (bx BK248.out) hb); have n2_ := ak (below_step lb hb); have n3_ := ak (hbox); have n4_ := ak ((by rw [hg]; exact (below_size lb) : w.heap.size ≤ gb251)); have n5_ := ak ((by rw [hg]; exact (below_size lb) : w.heap.size ≤ gb251)); have n6_ := ak ((by rw [hg]; exact Nat.ne_of_lt (blk_lt (g := gb247) (o := .cells #[.int .i64 a0_0, .slice A0_1 l0_1.length c0_1] 24 (0, 0)) (bx BK247.out)) : gb247 ≠ gb251)); have n7_ := ak ((by rw [hg]; exact Nat.ne_of_gt (blk_lt (g := gb247) (o := .cells #[.int .i64 a0_0, .slice A0_1 l0_1.length c0_1] 24 (0, 0)) (bx BK247.out)) : gb251 ≠ gb247)); have n8_ := ak ((by rw [hg]; exact Nat.ne_of_lt (blk_lt (g := gb248) (o := .cells #[.int .i64 0, .slice none 0 0] 28 (0, 0)) (bx BK248.out)) : gb248 ≠ gb251)); have n9_ := ak ((by rw [hg]; exact Nat.ne_of_gt (blk_lt (g := gb248) (o := .cells #[.int .i64 0, .slice none 0 0] 28 (0, 0)) (bx BK248.out)) : gb251 ≠ gb248)); clear BK247; clear BK248; clear HB; have BK247 := n0_; have BK248 := n1_; have HB := n2_; have BK251 := n3_; have GW251 := n4_; have GE251 := n5_; have NB247_251 := n6_; have NB251_247 := n7_; have NB248_251 := n8_; have NB251_248 := n9_; clear n0_ n1_ n2_ n3_ n4_ n5_ n6_ n7_ n8_ n9_; clear hb hbox hg; have hnb13 := NB251_247.out; have hnc13 := NB247_251.out; have hnb14 := NB251_248.out; have hnc14 := NB248_251.out; have hcz15_0 : w12.cell? ⟨gb251, 0, none⟩ = some (.int .i64 0) := (blk_cell BK251.out 0).trans rfl; have hcz15_1 : w12.cell? ⟨gb251, 1, none⟩ = some (.int .i64 0) := (blk_cell BK251.out 1).trans rfl; have hfz15_0 := blk_frozen BK251.out 0; have hfz15_1 := blk_frozen BK251.out 1; have hcz16_0 : w12.cell? ⟨gb247, 0, none⟩ = some (.int .i64 a0_0) := (blk_cell BK247.out 0).trans rfl; have hcz16_1 : w12.cell? ⟨gb247, 1, none⟩ = some (.slice A0_1 l0_1.length c0_1) := (blk_cell BK247.out 1).trans rfl; have hfz16_0 := blk_frozen BK247.out 0; have hfz16_1 := blk_frozen BK247.out 1) | ((with_reducible refine gate_callee (f := 21) rfl ?_); refine goesL_ (some 27) rfl rfl Try.func21 (by kernel_rfl) rfl #[.agg #[.int .i64 a0_0, .slice A0_1 l0_1.length c0_1], .bool a1] rfl (by (try simp only [List.map_toArray, List.map_cons, List.map_nil]); first | done | rfl | (simp only [List.length_drop, List.length_take]; rfl)) ?_; (with_reducible refine (euler_uneven.calls k a0_0 _ _ l0_1 a1 t252 true _ ?side1 ?side2 A5.out).mono ?_); (case side1 => exact Kd.C_below HR0_1.out lb); (case side2 => exact HC0_1.out); rintro e w17 ⟨rfl, hb⟩; refine ⟨_, rfl, ?_⟩; have n0_ := ak (blk_below (g := gb247) (o := .cells #[.int .i64 a0_0, .slice A0_1 l0_1.length c0_1] 24 (0, 0)) (by (with_reducible repeat (first | refine blk_drewN ?_ _ | refine blk_drew ?_ | refine blk_alloc ?_ _)); refine blk_far ?_ NB247_251.out _; (with_reducible repeat (first | refine blk_drewN ?_ _ | refine blk_drew ?_ | refine blk_alloc ?_ _)); refine blk_far ?_ NB247_251.out _; exact bx BK247.out) hb); have n1_ := ak (blk_below (g := gb248) (o := .cells #[.int .i64 0, .slice none 0 0] 28 (0, 0)) (by (with_reducible repeat (first | refine blk_drewN ?_ _ | refine blk_drew ?_ | refine blk_alloc ?_ _)); refine blk_far ?_ NB248_251.out _; (with_reducible repeat (first | refine blk_drewN ?_ _ | refine blk_drew ?_ | refine blk_alloc ?_ _)); refine blk_far ?_ NB248_251.out _; exact bx BK248.out) hb); have n2_ := ak (blk_below (g := gb251) (o := .cells #[.int .i64 t249, .int .i64 t250] 53 (0, 0)) (by (with_reducible repeat (first | refine blk_drewN ?_ _ | refine blk_drew ?_ | refine blk_alloc ?_ _)); refine blk_put (cs := #[.int .i64 t249, .int .i64 0]) ?_ 1 _ rfl; (with_reducible repeat (first | refine blk_drewN ?_ _ | refine blk_drew ?_ | refine blk_alloc ?_ _)); refine blk_put (cs := #[.int .i64 0, .int .i64 0]) ?_ 0 _ rfl; exact bx BK251.out) hb); have n3_ := ak (below_step lb hb); clear BK247; clear BK248; clear BK251; clear HB; have BK247 := n0_; have BK248 := n1_; have BK251 := n2_; have HB := n3_; clear n0_ n1_ n2_ n3_; (try clear hb); (try clear hb2); (try clear hk); (try clear hi); have hcz18_0 : w17.cell? ⟨gb248, 0, none⟩ = some (.int .i64 0) := (blk_cell BK248.out 0).trans rfl; have hcz18_1 : w17.cell? ⟨gb248, 1, none⟩ = some (.slice none 0 0) := (blk_cell BK248.out 1).trans rfl; have hfz18_0 := blk_frozen BK248.out 0; have hfz18_1 := blk_frozen BK248.out 1))
   refine bodyPost_ret (results_ctt rfl _ _ gb248 28 #[.int .i64 0, .slice none 0 0] (0, 0) _ rfl (by (with_reducible repeat (first | refine blk_drewN ?_ _ | refine blk_drew ?_ | refine blk_alloc ?_ _)); refine blk_put (cs := #[.int .i64 0, .slice none 0 0]) ?_ 1 _ rfl; (with_reducible repeat (first | refine blk_drewN ?_ _ | refine blk_drew ?_ | refine blk_alloc ?_ _)); refine blk_put (cs := #[.int .i64 0, .slice none 0 0]) ?_ 0 _ rfl; exact bx BK248.out) Try.underlying28 rfl (by kernel_rfl)) rfl ?_
   exact ⟨_, by first | rfl | (simp [errW_none, errW_some] <;> rfl) | (simp [*, errW_none, errW_some] <;> rfl), by first | exact Kd.R_nil _ _ _ _ _ | exact Kd.N_nil _ _ _ _ _ | exact Kd.V_nil _ _ _ _ _ | exact Kd.Q_nil _ _ _ _ _ | exact Kd.S_nil _ _ _ _ _, lb⟩
  ·
   replace c6 := Bool.eq_false_iff.mpr c6
   subst c6
   have H1 : ((euler_apart.f k a0_0 l0_1).bind fun bt254 => (if bt254.2.2 = true then (some (0, ([] : List (S51)), bt254.2.1, 91)) else (if (l0_1.length : Int) = 0 then (some (0, ([] : List (S51)), 0, 0)) else (if 0 ≤ a0_0 then (if (a0_0 : Int).toNat ≤ 11728124029610 then (euler_Tour.l0 k a1 bt254.1 (List.replicate (a0_0 : Int).toNat []) l0_1 (l0_1.length : Int) 0 a0_0 l0_1) else (none)) else (none))))) = some (r1, r2, r3, r4) := by rw [if_neg (show ¬ (false = true) by decide)] at H; exact H
   clear H
   have H := H1
   clear H1
   replace H := Option.bind_eq_some_iff.mp H
   obtain ⟨⟨t254, t255, t256⟩, A190, H⟩ := H
   replace H : (if t256 = true then (some (0, ([] : List (S51)), t255, 91)) else (if (l0_1.length : Int) = 0 then (some (0, ([] : List (S51)), 0, 0)) else (if 0 ≤ a0_0 then (if (a0_0 : Int).toNat ≤ 11728124029610 then (euler_Tour.l0 k a1 t254 (List.replicate (a0_0 : Int).toNat []) l0_1 (l0_1.length : Int) 0 a0_0 l0_1) else (none)) else (none)))) = some (r1, r2, r3, r4) := H
   have A19 := ak A190
   clear A190
   by_cases c20 : t256 = true
   ·
    subst c20
    have H1 : (some (0, ([] : List (S51)), t255, 91)) = some (r1, r2, r3, r4) := by rw [if_pos rfl] at H; exact H
    clear H
    have H := H1
    clear H1
    simp only [Option.some.injEq, Prod.mk.injEq] at H
    obtain ⟨rfl, rfl, rfl, rfl⟩ := H
    go_enter Try.func9, Try.ntmps9
    go_wp2_with (first | ((with_reducible refine gate_dst (N := 2) rfl ?_); refine box_event ?hg (N := 2) ?hd (cs := #[.int .i64 a0_0, .slice A0_1 l0_1.length c0_1]) (t := 24) ?hr ?_; (case hd => rfl); (case hg => rfl); (case hr => first | (go_simp; done) | (go_simp; rfl)); intro gb247 hg w21 hbox hb; have n0_ := ak (below_step lb hb); have n1_ := ak (hbox); have n2_ := ak ((by rw [hg]; exact (below_size lb) : w.heap.size ≤ gb247)); have n3_ := ak ((by rw [hg]; exact (below_size lb) : w.heap.size ≤ gb247)); clear HB; have HB := n0_; have BK247 := n1_; have GW247 := n2_; have GE247 := n3_; clear n0_ n1_ n2_ n3_; clear hb hbox hg) | ((with_reducible refine gate_dst (N := 4) rfl ?_); refine box_event ?hg (N := 4) ?hd (cs := #[.int .i64 0, .slice none 0 0]) (t := 28) ?hr ?_; (case hd => rfl); (case hg => rfl); (case hr => first | (go_simp; done) | (go_simp; rfl)); intro gb248 hg w22 hbox hb; have n0_ := ak (blk_below (bx BK247.out) hb); have n1_ := ak (below_step lb hb); have n2_ := ak (hbox); have n3_ := ak ((by rw [hg]; exact (below_size lb) : w.heap.size ≤ gb248)); have n4_ := ak ((by rw [hg]; exact (below_size lb) : w.heap.size ≤ gb248)); have n5_ := ak ((by rw [hg]; exact Nat.ne_of_lt (blk_lt (g := gb247) (o := .cells #[.int .i64 a0_0, .slice A0_1 l0_1.length c0_1] 24 (0, 0)) (bx BK247.out)) : gb247 ≠ gb248)); have n6_ := ak ((by rw [hg]; exact Nat.ne_of_gt (blk_lt (g := gb247) (o := .cells #[.int .i64 a0_0, .slice A0_1 l0_1.length c0_1] 24 (0, 0)) (bx BK247.out)) : gb248 ≠ gb247)); clear BK247; clear HB; have BK247 := n0_; have HB := n1_; have BK248 := n2_; have GW248 := n3_; have GE248 := n4_; have NB247_248 := n5_; have NB248_247 := n6_; clear n0_ n1_ n2_ n3_ n4_ n5_ n6_; clear hb hbox hg; have hnb23 := NB247_248.out; have hnc23 := NB248_247.out; have hcz24_0 : w22.cell? ⟨gb247, 0, none⟩ = some (.int .i64 a0_0) := (blk_cell BK247.out 0).trans rfl; have hcz24_1 : w22.cell? ⟨gb247, 1, none⟩ = some (.slice A0_1 l0_1.length c0_1) := (blk_cell BK247.out 1).trans rfl; have hfz24_0 := blk_frozen BK247.out 0; have hfz24_1 := blk_frozen BK247.out 1) | ((with_reducible refine gate_callee (f := 20) rfl ?_); refine goesL_ (some 17) rfl rfl Try.func20 (by kernel_rfl) rfl #[.agg #[.int .i64 a0_0, .slice A0_1 l0_1.length c0_1]] rfl (by (try simp only [List.map_toArray, List.map_cons, List.map_nil]); first | done | rfl | (simp only [List.length_drop, List.length_take]; rfl)) ?_; (with_reducible refine (graph_Check.calls k a0_0 _ _ l0_1 t249 t250 _ ?side1 ?side2 A3.out).mono ?_); (case side1 => repeat (first | exact (Kd.C_below HR0_1.out HB.out) | (with_reducible refine Kd.C_alloc ?_ _) | (with_reducible refine Kd.C_drewN ?_ _) | (with_reducible refine Kd.C_drew ?_))); (case side2 => exact HC0_1.out); rintro e w25 ⟨rfl, hb⟩; refine ⟨_, rfl, ?_⟩; have n0_ := ak (blk_below (bx BK247.out) hb); have n1_ := ak (blk_below (bx BK248.out) hb); have n2_ := ak (below_step lb hb); clear BK247; clear BK248; clear HB; have BK247 := n0_; have BK248 := n1_; have HB := n2_; clear n0_ n1_ n2_; (try clear hb); (try clear hb2); (try clear hk); (try clear hi)) | ((with_reducible refine gate_dst (N := 7) rfl ?_); refine box_event ?hg (N := 7) ?hd (cs := #[.int .i64 0, .int .i64 0]) (t := 53) ?hr ?_; (case hd => rfl); (case hg => rfl); (case hr => first | (go_simp; done) | (go_simp; rfl)); intro gb251 hg w26 hbox hb; have n0_ := ak (blk_below (bx BK247.out) hb); have n1_ := ak (blk_below (bx BK248.out) hb); have n2_ := ak (below_step lb hb); have n3_ := ak (hbox); have n4_ := ak ((by rw [hg]; exact (below_size lb) : w.heap.size ≤ gb251)); have n5_ := ak ((by rw [hg]; exact (below_size lb) : w.heap.size ≤ gb251)); have n6_ := ak ((by rw [hg]; exact Nat.ne_of_lt (blk_lt (g := gb247) (o := .cells #[.int .i64 a0_0, .slice A0_1 l0_1.length c0_1] 24 (0, 0)) (bx BK247.out)) : gb247 ≠ gb251)); have n7_ := ak ((by rw [hg]; exact Nat.ne_of_gt (blk_lt (g := gb247) (o := .cells #[.int .i64 a0_0, .slice A0_1 l0_1.length c0_1] 24 (0, 0)) (bx BK247.out)) : gb251 ≠ gb247)); have n8_ := ak ((by rw [hg]; exact Nat.ne_of_lt (blk_lt (g := gb248) (o := .cells #[.int .i64 0, .slice none 0 0] 28 (0, 0)) (bx BK248.out)) : gb248 ≠ gb251)); have n9_ := ak ((by rw [hg]; exact Nat.ne_of_gt (blk_lt (g := gb248) (o := .cells #[.int .i64 0, .slice none 0 0] 28 (0, 0)) (bx BK248.out)) : gb251 ≠ gb248)); clear BK247; clear BK248; clear HB; have BK247 := n0_; have BK248 := n1_; have HB := n2_; have BK251 := n3_; have GW251 := n4_; have GE251 := n5_; have NB247_251 := n6_; have NB251_247 := n7_; have NB248_251 := n8_; have NB251_248 := n9_; clear n0_ n1_ n2_ n3_ n4_ n5_ n6_ n7_ n8_ n9_; clear hb hbox hg; have hnb27 := NB251_247.out; have hnc27 := NB247_251.out; have hnb28 := NB251_248.out; have hnc28 := NB248_251.out; have hcz29_0 : w26.cell? ⟨gb251, 0, none⟩ = some (.int .i64 0) := (blk_cell BK251.out 0).trans rfl; have hcz29_1 : w26.cell? ⟨gb251, 1, none⟩ = some (.int .i64 0) := (blk_cell BK251.out 1).trans rfl; have hfz29_0 := blk_frozen BK251.out 0; have hfz29_1 := blk_frozen BK251.out 1; have hcz30_0 : w26.cell? ⟨gb247, 0, none⟩ = some (.int .i64 a0_0) := (blk_cell BK247.out 0).trans rfl; have hcz30_1 : w26.cell? ⟨gb247, 1, none⟩ = some (.slice A0_1 l0_1.length c0_1) := (blk_cell BK247.out 1).trans rfl; have hfz30_0 := blk_frozen BK247.out 0; have hfz30_1 := blk_frozen BK247.out 1) | ((with_reducible refine gate_callee (f := 21) rfl ?_); refine goesL_ (some 27) rfl rfl Try.func21 (by kernel_rfl) rfl #[.agg #[.int .i64 a0_0, .slice A0_1 l0_1.length c0_1], .bool a1] rfl (by (try simp only [List.map_toArray, List.map_cons, List.map_nil]); first | done | rfl | (simp only [List.length_drop, List.length_take]; rfl)) ?_; (with_reducible refine (euler_uneven.calls k a0_0 _ _ l0_1 a1 t252 false _ ?side1 ?side2 A5.out).mono ?_); (case side1 => exact Kd.C_below HR0_1.out lb); (case side2 => exact HC0_1.out); rintro e w31 ⟨rfl, hb⟩; refine ⟨_, rfl, ?_⟩; have n0_ := ak (blk_below (g := gb247) (o := .cells #[.int .i64 a0_0, .slice A0_1 l0_1.length c0_1] 24 (0, 0)) (by (with_reducible repeat (first | refine blk_drewN ?_ _ | refine blk_drew ?_ | refine blk_alloc ?_ _)); refine blk_far ?_ NB247_251.out _; (with_reducible repeat (first | refine blk_drewN ?_ _ | refine blk_drew ?_ | refine blk_alloc ?_ _)); refine blk_far ?_ NB247_251.out _; exact bx BK247.out) hb); have n1_ := ak (blk_below (g := gb248) (o := .cells #[.int .i64 0, .slice none 0 0] 28 (0, 0)) (by (with_reducible repeat (first | refine blk_drewN ?_ _ | refine blk_drew ?_ | refine blk_alloc ?_ _)); refine blk_far ?_ NB248_251.out _; (with_reducible repeat (first | refine blk_drewN ?_ _ | refine blk_drew ?_ | refine blk_alloc ?_ _)); refine blk_far ?_ NB248_251.out _; exact bx BK248.out) hb); have n2_ := ak (blk_below (g := gb251) (o := .cells #[.int .i64 t249, .int .i64 t250] 53 (0, 0)) (by (with_reducible repeat (first | refine blk_drewN ?_ _ | refine blk_drew ?_ | refine blk_alloc ?_ _)); refine blk_put (cs := #[.int .i64 t249, .int .i64 0]) ?_ 1 _ rfl; (with_reducible repeat (first | refine blk_drewN ?_ _ | refine blk_drew ?_ | refine blk_alloc ?_ _)); refine blk_put (cs := #[.int .i64 0, .int .i64 0]) ?_ 0 _ rfl; exact bx BK251.out) hb); have n3_ := ak (below_step lb hb); clear BK247; clear BK248; clear BK251; clear HB; have BK247 := n0_; have BK248 := n1_; have BK251 := n2_; have HB := n3_; clear n0_ n1_ n2_ n3_; (try clear hb); (try clear hb2); (try clear hk); (try clear hi); have hcz32_0 : w31.cell? ⟨gb247, 0, none⟩ = some (.int .i64 a0_0) := (blk_cell BK247.out 0).trans rfl; have hcz32_1 : w31.cell? ⟨gb247, 1, none⟩ = some (.slice A0_1 l0_1.length c0_1) := (blk_cell BK247.out 1).trans rfl; have hfz32_0 := blk_frozen BK247.out 0; have hfz32_1 := blk_frozen BK247.out 1) | ((with_reducible refine gate_callee (f := 22) rfl ?_); refine goesL_ (some 35) rfl rfl Try.func22 (by kernel_rfl) rfl #[.agg #[.int .i64 a0_0, .slice A0_1 l0_1.length c0_1]] rfl (by (try simp only [List.map_toArray, List.map_cons, List.map_nil]); first | done | rfl | (simp only [List.length_drop, List.length_take]; rfl)) ?_; (with_reducible refine (euler_apart.calls k a0_0 _ _ l0_1 t254 t255 true _ ?side1 ?side2 A19.out).mono ?_); (case side1 => repeat (first | exact (Kd.C_below HR0_1.out HB.out) | (with_reducible refine Kd.C_alloc ?_ _) | (with_reducible refine Kd.C_drewN ?_ _) | (with_reducible refine Kd.C_drew ?_))); (case side2 => exact HC0_1.out); rintro e w33 ⟨rfl, hb⟩; refine ⟨_, rfl, ?_⟩; have n0_ := ak (blk_below (bx BK247.out) hb); have n1_ := ak (blk_below (bx BK248.out) hb); have n2_ := ak (blk_below (bx BK251.out) hb); have n3_ := ak (below_step lb hb); clear BK247; clear BK248; clear BK251; clear HB; have BK247 := n0_; have BK248 := n1_; have BK251 := n2_; have HB := n3_; clear n0_ n1_ n2_ n3_; (try clear hb); (try clear hb2); (try clear hk); (try clear hi); have hcz34_0 : w33.cell? ⟨gb248, 0, none⟩ = some (.int .i64 0) := (blk_cell BK248.out 0).trans rfl; have hcz34_1 : w33.cell? ⟨gb248, 1, none⟩ = some (.slice none 0 0) := (blk_cell BK248.out 1).trans rfl; have hfz34_0 := blk_frozen BK248.out 0; have hfz34_1 := blk_frozen BK248.out 1))
    refine bodyPost_ret (results_ctt rfl _ _ gb248 28 #[.int .i64 0, .slice none 0 0] (0, 0) _ rfl (by (with_reducible repeat (first | refine blk_drewN ?_ _ | refine blk_drew ?_ | refine blk_alloc ?_ _)); refine blk_put (cs := #[.int .i64 0, .slice none 0 0]) ?_ 1 _ rfl; (with_reducible repeat (first | refine blk_drewN ?_ _ | refine blk_drew ?_ | refine blk_alloc ?_ _)); refine blk_put (cs := #[.int .i64 0, .slice none 0 0]) ?_ 0 _ rfl; exact bx BK248.out) Try.underlying28 rfl (by kernel_rfl)) rfl ?_
    exact ⟨_, by first | rfl | (simp [errW_none, errW_some] <;> rfl) | (simp [*, errW_none, errW_some] <;> rfl), by first | exact Kd.R_nil _ _ _ _ _ | exact Kd.N_nil _ _ _ _ _ | exact Kd.V_nil _ _ _ _ _ | exact Kd.Q_nil _ _ _ _ _ | exact Kd.S_nil _ _ _ _ _, lb⟩
   ·
    replace c20 := Bool.eq_false_iff.mpr c20
    subst c20
    have H1 : (if (l0_1.length : Int) = 0 then (some (0, ([] : List (S51)), 0, 0)) else (if 0 ≤ a0_0 then (if (a0_0 : Int).toNat ≤ 11728124029610 then (euler_Tour.l0 k a1 t254 (List.replicate (a0_0 : Int).toNat []) l0_1 (l0_1.length : Int) 0 a0_0 l0_1) else (none)) else (none))) = some (r1, r2, r3, r4) := by rw [if_neg (show ¬ (false = true) by decide)] at H; exact H
    clear H
    have H := H1
    clear H1
    by_cases c35 : (l0_1.length : Int) = 0
    ·
     rw [if_pos c35] at H
     have c35b0 : ((l0_1.length : Int) == 0) = true := beq_iff_eq.mpr c35
     have c35b1 : ((l0_1.length : Int) != 0) = false := bne_eq_false_iff_eq.mpr c35
     clear c35
     simp only [Option.some.injEq, Prod.mk.injEq] at H
     obtain ⟨rfl, rfl, rfl, rfl⟩ := H
     go_enter Try.func9, Try.ntmps9
     go_wp2_with (first | ((with_reducible refine gate_dst (N := 2) rfl ?_); refine box_event ?hg (N := 2) ?hd (cs := #[.int .i64 a0_0, .slice A0_1 l0_1.length c0_1]) (t := 24) ?hr ?_; (case hd => rfl); (case hg => rfl); (case hr => first | (go_simp; done) | (go_simp; rfl)); intro gb247 hg w36 hbox hb; have n0_ := ak (below_step lb hb); have n1_ := ak (hbox); have n2_ := ak ((by rw [hg]; exact (below_size lb) : w.heap.size ≤ gb247)); have n3_ := ak ((by rw [hg]; exact (below_size lb) : w.heap.size ≤ gb247)); clear HB; have HB := n0_; have BK247 := n1_; have GW247 := n2_; have GE247 := n3_; clear n0_ n1_ n2_ n3_; clear hb hbox hg) | ((with_reducible refine gate_dst (N := 4) rfl ?_); refine box_event ?hg (N := 4) ?hd (cs := #[.int .i64 0, .slice none 0 0]) (t := 28) ?hr ?_; (case hd => rfl); (case hg => rfl); (case hr => first | (go_simp; done) | (go_simp; rfl)); intro gb248 hg w37 hbox hb; have n0_ := ak (blk_below (bx BK247.out) hb); have n1_ := ak (below_step lb hb); have n2_ := ak (hbox); have n3_ := ak ((by rw [hg]; exact (below_size lb) : w.heap.size ≤ gb248)); have n4_ := ak ((by rw [hg]; exact (below_size lb) : w.heap.size ≤ gb248)); have n5_ := ak ((by rw [hg]; exact Nat.ne_of_lt (blk_lt (g := gb247) (o := .cells #[.int .i64 a0_0, .slice A0_1 l0_1.length c0_1] 24 (0, 0)) (bx BK247.out)) : gb247 ≠ gb248)); have n6_ := ak ((by rw [hg]; exact Nat.ne_of_gt (blk_lt (g := gb247) (o := .cells #[.int .i64 a0_0, .slice A0_1 l0_1.length c0_1] 24 (0, 0)) (bx BK247.out)) : gb248 ≠ gb247)); clear BK247; clear HB; have BK247 := n0_; have HB := n1_; have BK248 := n2_; have GW248 := n3_; have GE248 := n4_; have NB247_248 := n5_; have NB248_247 := n6_; clear n0_ n1_ n2_ n3_ n4_ n5_ n6_; clear hb hbox hg; have hnb38 := NB247_248.out; have hnc38 := NB248_247.out; have hcz39_0 : w37.cell? ⟨gb247, 0, none⟩ = some (.int .i64 a0_0) := (blk_cell BK247.out 0).trans rfl; have hcz39_1 : w37.cell? ⟨gb247, 1, none⟩ = some (.slice A0_1 l0_1.length c0_1) := (blk_cell BK247.out 1).trans rfl; have hfz39_0 := blk_frozen BK247.out 0; have hfz39_1 := blk_frozen BK247.out 1) | ((with_reducible refine gate_callee (f := 20) rfl ?_); refine goesL_ (some 17) rfl rfl Try.func20 (by kernel_rfl) rfl #[.agg #[.int .i64 a0_0, .slice A0_1 l0_1.length c0_1]] rfl (by (try simp only [List.map_toArray, List.map_cons, List.map_nil]); first | done | rfl | (simp only [List.length_drop, List.length_take]; rfl)) ?_; (with_reducible refine (graph_Check.calls k a0_0 _ _ l0_1 t249 t250 _ ?side1 ?side2 A3.out).mono ?_); (case side1 => repeat (first | exact (Kd.C_below HR0_1.out HB.out) | (with_reducible refine Kd.C_alloc ?_ _) | (with_reducible refine Kd.C_drewN ?_ _) | (with_reducible refine Kd.C_drew ?_))); (case side2 => exact HC0_1.out); rintro e w40 ⟨rfl, hb⟩; refine ⟨_, rfl, ?_⟩; have n0_ := ak (blk_below (bx BK247.out) hb); have n1_ := ak (blk_below (bx BK248.out) hb); have n2_ := ak (below_step lb hb); clear BK247; clear BK248; clear HB; have BK247 := n0_; have BK248 := n1_; have HB := n2_; clear n0_ n1_ n2_; (try clear hb); (try clear hb2); (try clear hk); (try clear hi)) | ((with_reducible refine gate_dst (N := 7) rfl ?_); refine box_event ?hg (N := 7) ?hd (cs := #[.int .i64 0, .int .i64 0]) (t := 53) ?hr ?_; (case hd => rfl); (case hg => rfl); (case hr => first | (go_simp; done) | (go_simp; rfl)); intro gb251 hg w41 hbox hb; have n0_ := ak (blk_below (bx BK247.out) hb); have n1_ := ak (blk_below (bx BK248.out) hb); have n2_ := ak (below_step lb hb); have n3_ := ak (hbox); have n4_ := ak ((by rw [hg]; exact (below_size lb) : w.heap.size ≤ gb251)); have n5_ := ak ((by rw [hg]; exact (below_size lb) : w.heap.size ≤ gb251)); have n6_ := ak ((by rw [hg]; exact Nat.ne_of_lt (blk_lt (g := gb247) (o := .cells #[.int .i64 a0_0, .slice A0_1 l0_1.length c0_1] 24 (0, 0)) (bx BK247.out)) : gb247 ≠ gb251)); have n7_ := ak ((by rw [hg]; exact Nat.ne_of_gt (blk_lt (g := gb247) (o := .cells #[.int .i64 a0_0, .slice A0_1 l0_1.length c0_1] 24 (0, 0)) (bx BK247.out)) : gb251 ≠ gb247)); have n8_ := ak ((by rw [hg]; exact Nat.ne_of_lt (blk_lt (g := gb248) (o := .cells #[.int .i64 0, .slice none 0 0] 28 (0, 0)) (bx BK248.out)) : gb248 ≠ gb251)); have n9_ := ak ((by rw [hg]; exact Nat.ne_of_gt (blk_lt (g := gb248) (o := .cells #[.int .i64 0, .slice none 0 0] 28 (0, 0)) (bx BK248.out)) : gb251 ≠ gb248)); clear BK247; clear BK248; clear HB; have BK247 := n0_; have BK248 := n1_; have HB := n2_; have BK251 := n3_; have GW251 := n4_; have GE251 := n5_; have NB247_251 := n6_; have NB251_247 := n7_; have NB248_251 := n8_; have NB251_248 := n9_; clear n0_ n1_ n2_ n3_ n4_ n5_ n6_ n7_ n8_ n9_; clear hb hbox hg; have hnb42 := NB251_247.out; have hnc42 := NB247_251.out; have hnb43 := NB251_248.out; have hnc43 := NB248_251.out; have hcz44_0 : w41.cell? ⟨gb251, 0, none⟩ = some (.int .i64 0) := (blk_cell BK251.out 0).trans rfl; have hcz44_1 : w41.cell? ⟨gb251, 1, none⟩ = some (.int .i64 0) := (blk_cell BK251.out 1).trans rfl; have hfz44_0 := blk_frozen BK251.out 0; have hfz44_1 := blk_frozen BK251.out 1; have hcz45_0 : w41.cell? ⟨gb247, 0, none⟩ = some (.int .i64 a0_0) := (blk_cell BK247.out 0).trans rfl; have hcz45_1 : w41.cell? ⟨gb247, 1, none⟩ = some (.slice A0_1 l0_1.length c0_1) := (blk_cell BK247.out 1).trans rfl; have hfz45_0 := blk_frozen BK247.out 0; have hfz45_1 := blk_frozen BK247.out 1) | ((with_reducible refine gate_callee (f := 21) rfl ?_); refine goesL_ (some 27) rfl rfl Try.func21 (by kernel_rfl) rfl #[.agg #[.int .i64 a0_0, .slice A0_1 l0_1.length c0_1], .bool a1] rfl (by (try simp only [List.map_toArray, List.map_cons, List.map_nil]); first | done | rfl | (simp only [List.length_drop, List.length_take]; rfl)) ?_; (with_reducible refine (euler_uneven.calls k a0_0 _ _ l0_1 a1 t252 false _ ?side1 ?side2 A5.out).mono ?_); (case side1 => exact Kd.C_below HR0_1.out lb); (case side2 => exact HC0_1.out); rintro e w46 ⟨rfl, hb⟩; refine ⟨_, rfl, ?_⟩; have n0_ := ak (blk_below (g := gb247) (o := .cells #[.int .i64 a0_0, .slice A0_1 l0_1.length c0_1] 24 (0, 0)) (by (with_reducible repeat (first | refine blk_drewN ?_ _ | refine blk_drew ?_ | refine blk_alloc ?_ _)); refine blk_far ?_ NB247_251.out _; (with_reducible repeat (first | refine blk_drewN ?_ _ | refine blk_drew ?_ | refine blk_alloc ?_ _)); refine blk_far ?_ NB247_251.out _; exact bx BK247.out) hb); have n1_ := ak (blk_below (g := gb248) (o := .cells #[.int .i64 0, .slice none 0 0] 28 (0, 0)) (by (with_reducible repeat (first | refine blk_drewN ?_ _ | refine blk_drew ?_ | refine blk_alloc ?_ _)); refine blk_far ?_ NB248_251.out _; (with_reducible repeat (first | refine blk_drewN ?_ _ | refine blk_drew ?_ | refine blk_alloc ?_ _)); refine blk_far ?_ NB248_251.out _; exact bx BK248.out) hb); have n2_ := ak (blk_below (g := gb251) (o := .cells #[.int .i64 t249, .int .i64 t250] 53 (0, 0)) (by (with_reducible repeat (first | refine blk_drewN ?_ _ | refine blk_drew ?_ | refine blk_alloc ?_ _)); refine blk_put (cs := #[.int .i64 t249, .int .i64 0]) ?_ 1 _ rfl; (with_reducible repeat (first | refine blk_drewN ?_ _ | refine blk_drew ?_ | refine blk_alloc ?_ _)); refine blk_put (cs := #[.int .i64 0, .int .i64 0]) ?_ 0 _ rfl; exact bx BK251.out) hb); have n3_ := ak (below_step lb hb); clear BK247; clear BK248; clear BK251; clear HB; have BK247 := n0_; have BK248 := n1_; have BK251 := n2_; have HB := n3_; clear n0_ n1_ n2_ n3_; (try clear hb); (try clear hb2); (try clear hk); (try clear hi); have hcz47_0 : w46.cell? ⟨gb247, 0, none⟩ = some (.int .i64 a0_0) := (blk_cell BK247.out 0).trans rfl; have hcz47_1 : w46.cell? ⟨gb247, 1, none⟩ = some (.slice A0_1 l0_1.length c0_1) := (blk_cell BK247.out 1).trans rfl; have hfz47_0 := blk_frozen BK247.out 0; have hfz47_1 := blk_frozen BK247.out 1) | ((with_reducible refine gate_callee (f := 22) rfl ?_); refine goesL_ (some 35) rfl rfl Try.func22 (by kernel_rfl) rfl #[.agg #[.int .i64 a0_0, .slice A0_1 l0_1.length c0_1]] rfl (by (try simp only [List.map_toArray, List.map_cons, List.map_nil]); first | done | rfl | (simp only [List.length_drop, List.length_take]; rfl)) ?_; (with_reducible refine (euler_apart.calls k a0_0 _ _ l0_1 t254 t255 false _ ?side1 ?side2 A19.out).mono ?_); (case side1 => repeat (first | exact (Kd.C_below HR0_1.out HB.out) | (with_reducible refine Kd.C_alloc ?_ _) | (with_reducible refine Kd.C_drewN ?_ _) | (with_reducible refine Kd.C_drew ?_))); (case side2 => exact HC0_1.out); rintro e w48 ⟨rfl, hb⟩; refine ⟨_, rfl, ?_⟩; have n0_ := ak (blk_below (bx BK247.out) hb); have n1_ := ak (blk_below (bx BK248.out) hb); have n2_ := ak (blk_below (bx BK251.out) hb); have n3_ := ak (below_step lb hb); clear BK247; clear BK248; clear BK251; clear HB; have BK247 := n0_; have BK248 := n1_; have BK251 := n2_; have HB := n3_; clear n0_ n1_ n2_ n3_; (try clear hb); (try clear hb2); (try clear hk); (try clear hi); have hcz49_0 : w48.cell? ⟨gb247, 0, none⟩ = some (.int .i64 a0_0) := (blk_cell BK247.out 0).trans rfl; have hcz49_1 : w48.cell? ⟨gb247, 1, none⟩ = some (.slice A0_1 l0_1.length c0_1) := (blk_cell BK247.out 1).trans rfl; have hfz49_0 := blk_frozen BK247.out 0; have hfz49_1 := blk_frozen BK247.out 1; have hcz50_0 : w48.cell? ⟨gb248, 0, none⟩ = some (.int .i64 0) := (blk_cell BK248.out 0).trans rfl; have hcz50_1 : w48.cell? ⟨gb248, 1, none⟩ = some (.slice none 0 0) := (blk_cell BK248.out 1).trans rfl; have hfz50_0 := blk_frozen BK248.out 0; have hfz50_1 := blk_frozen BK248.out 1))
     refine bodyPost_ret (results_ctt rfl _ _ gb248 28 #[.int .i64 0, .slice none 0 0] (0, 0) _ rfl (by (with_reducible repeat (first | refine blk_drewN ?_ _ | refine blk_drew ?_ | refine blk_alloc ?_ _)); refine blk_put (cs := #[.int .i64 0, .slice none 0 0]) ?_ 1 _ rfl; (with_reducible repeat (first | refine blk_drewN ?_ _ | refine blk_drew ?_ | refine blk_alloc ?_ _)); refine blk_put (cs := #[.int .i64 0, .slice none 0 0]) ?_ 0 _ rfl; exact bx BK248.out) Try.underlying28 rfl (by kernel_rfl)) rfl ?_
     exact ⟨_, by first | rfl | (simp [errW_none, errW_some] <;> rfl) | (simp [*, errW_none, errW_some] <;> rfl), by first | exact Kd.R_nil _ _ _ _ _ | exact Kd.N_nil _ _ _ _ _ | exact Kd.V_nil _ _ _ _ _ | exact Kd.Q_nil _ _ _ _ _ | exact Kd.S_nil _ _ _ _ _, lb⟩
    ·
     rw [if_neg c35] at H
     have c35b0 : ((l0_1.length : Int) == 0) = false := beq_eq_false_iff_ne.mpr c35
     have c35b1 : ((l0_1.length : Int) != 0) = true := bne_iff_ne.mpr c35
     have c35b2 : ¬ (l0_1 = []) := fun h_ => c35 (by rw [h_]; rfl)
     by_cases c51 : 0 ≤ a0_0
     rotate_left
     ·
      rw [if_neg c51] at H
      exact absurd H (by simp)
     rw [if_pos c51] at H
     have c51b0 := eq_true c51
     have c51b1 : decide (0 ≤ a0_0) = true := decide_eq_true c51
     clear c51
     by_cases c52 : (a0_0 : Int).toNat ≤ 11728124029610
     rotate_left
     ·
      rw [if_neg c52] at H
      exact absurd H (by simp)
     rw [if_pos c52] at H
     have c52b0 := eq_true c52
     have c52b1 : decide ((a0_0 : Int).toNat ≤ 11728124029610) = true := decide_eq_true c52
     clear c52
     obtain ⟨y257, hy257⟩ : ∃ y_ : List (List (S51)), y_ = (List.replicate (a0_0 : Int).toNat []) := ⟨_, rfl⟩
     replace H : (euler_Tour.l0 k a1 t254 y257 l0_1 (l0_1.length : Int) 0 a0_0 l0_1) = some (r1, r2, r3, r4) := by first | (rw [hy257]; exact H) | exact H
     have Ny257 := ak hy257
     clear hy257
     have H' := ak H
     clear H
     go_enter Try.func9, Try.ntmps9
     go_wp2_with (first | ((with_reducible refine gate_dst (N := 2) rfl ?_); refine box_event ?hg (N := 2) ?hd (cs := #[.int .i64 a0_0, .slice A0_1 l0_1.length c0_1]) (t := 24) ?hr ?_; (case hd => rfl); (case hg => rfl); (case hr => first | (go_simp; done) | (go_simp; rfl)); intro gb247 hg w53 hbox hb; have n0_ := ak (below_step lb hb); have n1_ := ak (hbox); have n2_ := ak ((by rw [hg]; exact (below_size lb) : w.heap.size ≤ gb247)); have n3_ := ak ((by rw [hg]; exact (below_size lb) : w.heap.size ≤ gb247)); clear HB; have HB := n0_; have BK247 := n1_; have GW247 := n2_; have GE247 := n3_; clear n0_ n1_ n2_ n3_; clear hb hbox hg) | ((with_reducible refine gate_dst (N := 4) rfl ?_); refine box_event ?hg (N := 4) ?hd (cs := #[.int .i64 0, .slice none 0 0]) (t := 28) ?hr ?_; (case hd => rfl); (case hg => rfl); (case hr => first | (go_simp; done) | (go_simp; rfl)); intro gb248 hg w54 hbox hb; have n0_ := ak (blk_below (bx BK247.out) hb); have n1_ := ak (below_step lb hb); have n2_ := ak (hbox); have n3_ := ak ((by rw [hg]; exact (below_size lb) : w.heap.size ≤ gb248)); have n4_ := ak ((by rw [hg]; exact (below_size lb) : w.heap.size ≤ gb248)); have n5_ := ak ((by rw [hg]; exact Nat.ne_of_lt (blk_lt (g := gb247) (o := .cells #[.int .i64 a0_0, .slice A0_1 l0_1.length c0_1] 24 (0, 0)) (bx BK247.out)) : gb247 ≠ gb248)); have n6_ := ak ((by rw [hg]; exact Nat.ne_of_gt (blk_lt (g := gb247) (o := .cells #[.int .i64 a0_0, .slice A0_1 l0_1.length c0_1] 24 (0, 0)) (bx BK247.out)) : gb248 ≠ gb247)); clear BK247; clear HB; have BK247 := n0_; have HB := n1_; have BK248 := n2_; have GW248 := n3_; have GE248 := n4_; have NB247_248 := n5_; have NB248_247 := n6_; clear n0_ n1_ n2_ n3_ n4_ n5_ n6_; clear hb hbox hg; have hnb55 := NB247_248.out; have hnc55 := NB248_247.out; have hcz56_0 : w54.cell? ⟨gb247, 0, none⟩ = some (.int .i64 a0_0) := (blk_cell BK247.out 0).trans rfl; have hcz56_1 : w54.cell? ⟨gb247, 1, none⟩ = some (.slice A0_1 l0_1.length c0_1) := (blk_cell BK247.out 1).trans rfl; have hfz56_0 := blk_frozen BK247.out 0; have hfz56_1 := blk_frozen BK247.out 1) | ((with_reducible refine gate_callee (f := 20) rfl ?_); refine goesL_ (some 17) rfl rfl Try.func20 (by kernel_rfl) rfl #[.agg #[.int .i64 a0_0, .slice A0_1 l0_1.length c0_1]] rfl (by (try simp only [List.map_toArray, List.map_cons, List.map_nil]); first | done | rfl | (simp only [List.length_drop, List.length_take]; rfl)) ?_; (with_reducible refine (graph_Check.calls k a0_0 _ _ l0_1 t249 t250 _ ?side1 ?side2 A3.out).mono ?_); (case side1 => repeat (first | exact (Kd.C_below HR0_1.out HB.out) | (with_reducible refine Kd.C_alloc ?_ _) | (with_reducible refine Kd.C_drewN ?_ _) | (with_reducible refine Kd.C_drew ?_))); (case side2 => exact HC0_1.out); rintro e w57 ⟨rfl, hb⟩; refine ⟨_, rfl, ?_⟩; have n0_ := ak (blk_below (bx BK247.out) hb); have n1_ := ak (blk_below (bx BK248.out) hb); have n2_ := ak (below_step lb hb); clear BK247; clear BK248; clear HB; have BK247 := n0_; have BK248 := n1_; have HB := n2_; clear n0_ n1_ n2_; (try clear hb); (try clear hb2); (try clear hk); (try clear hi)) | ((with_reducible refine gate_dst (N := 7) rfl ?_); refine box_event ?hg (N := 7) ?hd (cs := #[.int .i64 0, .int .i64 0]) (t := 53) ?hr ?_; (case hd => rfl); (case hg => rfl); (case hr => first | (go_simp; done) | (go_simp; rfl)); intro gb251 hg w58 hbox hb; have n0_ := ak (blk_below (bx BK247.out) hb); have n1_ := ak (blk_below (bx BK248.out) hb); have n2_ := ak (below_step lb hb); have n3_ := ak (hbox); have n4_ := ak ((by rw [hg]; exact (below_size lb) : w.heap.size ≤ gb251)); have n5_ := ak ((by rw [hg]; exact (below_size lb) : w.heap.size ≤ gb251)); have n6_ := ak ((by rw [hg]; exact Nat.ne_of_lt (blk_lt (g := gb247) (o := .cells #[.int .i64 a0_0, .slice A0_1 l0_1.length c0_1] 24 (0, 0)) (bx BK247.out)) : gb247 ≠ gb251)); have n7_ := ak ((by rw [hg]; exact Nat.ne_of_gt (blk_lt (g := gb247) (o := .cells #[.int .i64 a0_0, .slice A0_1 l0_1.length c0_1] 24 (0, 0)) (bx BK247.out)) : gb251 ≠ gb247)); have n8_ := ak ((by rw [hg]; exact Nat.ne_of_lt (blk_lt (g := gb248) (o := .cells #[.int .i64 0, .slice none 0 0] 28 (0, 0)) (bx BK248.out)) : gb248 ≠ gb251)); have n9_ := ak ((by rw [hg]; exact Nat.ne_of_gt (blk_lt (g := gb248) (o := .cells #[.int .i64 0, .slice none 0 0] 28 (0, 0)) (bx BK248.out)) : gb251 ≠ gb248)); clear BK247; clear BK248; clear HB; have BK247 := n0_; have BK248 := n1_; have HB := n2_; have BK251 := n3_; have GW251 := n4_; have GE251 := n5_; have NB247_251 := n6_; have NB251_247 := n7_; have NB248_251 := n8_; have NB251_248 := n9_; clear n0_ n1_ n2_ n3_ n4_ n5_ n6_ n7_ n8_ n9_; clear hb hbox hg; have hnb59 := NB251_247.out; have hnc59 := NB247_251.out; have hnb60 := NB251_248.out; have hnc60 := NB248_251.out; have hcz61_0 : w58.cell? ⟨gb251, 0, none⟩ = some (.int .i64 0) := (blk_cell BK251.out 0).trans rfl; have hcz61_1 : w58.cell? ⟨gb251, 1, none⟩ = some (.int .i64 0) := (blk_cell BK251.out 1).trans rfl; have hfz61_0 := blk_frozen BK251.out 0; have hfz61_1 := blk_frozen BK251.out 1; have hcz62_0 : w58.cell? ⟨gb247, 0, none⟩ = some (.int .i64 a0_0) := (blk_cell BK247.out 0).trans rfl; have hcz62_1 : w58.cell? ⟨gb247, 1, none⟩ = some (.slice A0_1 l0_1.length c0_1) := (blk_cell BK247.out 1).trans rfl; have hfz62_0 := blk_frozen BK247.out 0; have hfz62_1 := blk_frozen BK247.out 1) | ((with_reducible refine gate_callee (f := 21) rfl ?_); refine goesL_ (some 27) rfl rfl Try.func21 (by kernel_rfl) rfl #[.agg #[.int .i64 a0_0, .slice A0_1 l0_1.length c0_1], .bool a1] rfl (by (try simp only [List.map_toArray, List.map_cons, List.map_nil]); first | done | rfl | (simp only [List.length_drop, List.length_take]; rfl)) ?_; (with_reducible refine (euler_uneven.calls k a0_0 _ _ l0_1 a1 t252 false _ ?side1 ?side2 A5.out).mono ?_); (case side1 => exact Kd.C_below HR0_1.out lb); (case side2 => exact HC0_1.out); rintro e w63 ⟨rfl, hb⟩; refine ⟨_, rfl, ?_⟩; have n0_ := ak (blk_below (g := gb247) (o := .cells #[.int .i64 a0_0, .slice A0_1 l0_1.length c0_1] 24 (0, 0)) (by (with_reducible repeat (first | refine blk_drewN ?_ _ | refine blk_drew ?_ | refine blk_alloc ?_ _)); refine blk_far ?_ NB247_251.out _; (with_reducible repeat (first | refine blk_drewN ?_ _ | refine blk_drew ?_ | refine blk_alloc ?_ _)); refine blk_far ?_ NB247_251.out _; exact bx BK247.out) hb); have n1_ := ak (blk_below (g := gb248) (o := .cells #[.int .i64 0, .slice none 0 0] 28 (0, 0)) (by (with_reducible repeat (first | refine blk_drewN ?_ _ | refine blk_drew ?_ | refine blk_alloc ?_ _)); refine blk_far ?_ NB248_251.out _; (with_reducible repeat (first | refine blk_drewN ?_ _ | refine blk_drew ?_ | refine blk_alloc ?_ _)); refine blk_far ?_ NB248_251.out _; exact bx BK248.out) hb); have n2_ := ak (blk_below (g := gb251) (o := .cells #[.int .i64 t249, .int .i64 t250] 53 (0, 0)) (by (with_reducible repeat (first | refine blk_drewN ?_ _ | refine blk_drew ?_ | refine blk_alloc ?_ _)); refine blk_put (cs := #[.int .i64 t249, .int .i64 0]) ?_ 1 _ rfl; (with_reducible repeat (first | refine blk_drewN ?_ _ | refine blk_drew ?_ | refine blk_alloc ?_ _)); refine blk_put (cs := #[.int .i64 0, .int .i64 0]) ?_ 0 _ rfl; exact bx BK251.out) hb); have n3_ := ak (below_step lb hb); clear BK247; clear BK248; clear BK251; clear HB; have BK247 := n0_; have BK248 := n1_; have BK251 := n2_; have HB := n3_; clear n0_ n1_ n2_ n3_; (try clear hb); (try clear hb2); (try clear hk); (try clear hi); have hcz64_0 : w63.cell? ⟨gb247, 0, none⟩ = some (.int .i64 a0_0) := (blk_cell BK247.out 0).trans rfl; have hcz64_1 : w63.cell? ⟨gb247, 1, none⟩ = some (.slice A0_1 l0_1.length c0_1) := (blk_cell BK247.out 1).trans rfl; have hfz64_0 := blk_frozen BK247.out 0; have hfz64_1 := blk_frozen BK247.out 1) | ((with_reducible refine gate_callee (f := 22) rfl ?_); refine goesL_ (some 35) rfl rfl Try.func22 (by kernel_rfl) rfl #[.agg #[.int .i64 a0_0, .slice A0_1 l0_1.length c0_1]] rfl (by (try simp only [List.map_toArray, List.map_cons, List.map_nil]); first | done | rfl | (simp only [List.length_drop, List.length_take]; rfl)) ?_; (with_reducible refine (euler_apart.calls k a0_0 _ _ l0_1 t254 t255 false _ ?side1 ?side2 A19.out).mono ?_); (case side1 => repeat (first | exact (Kd.C_below HR0_1.out HB.out) | (with_reducible refine Kd.C_alloc ?_ _) | (with_reducible refine Kd.C_drewN ?_ _) | (with_reducible refine Kd.C_drew ?_))); (case side2 => exact HC0_1.out); rintro e w65 ⟨rfl, hb⟩; refine ⟨_, rfl, ?_⟩; have n0_ := ak (blk_below (bx BK247.out) hb); have n1_ := ak (blk_below (bx BK248.out) hb); have n2_ := ak (blk_below (bx BK251.out) hb); have n3_ := ak (below_step lb hb); clear BK247; clear BK248; clear BK251; clear HB; have BK247 := n0_; have BK248 := n1_; have BK251 := n2_; have HB := n3_; clear n0_ n1_ n2_ n3_; (try clear hb); (try clear hb2); (try clear hk); (try clear hi); have hcz66_0 : w65.cell? ⟨gb247, 0, none⟩ = some (.int .i64 a0_0) := (blk_cell BK247.out 0).trans rfl; have hcz66_1 : w65.cell? ⟨gb247, 1, none⟩ = some (.slice A0_1 l0_1.length c0_1) := (blk_cell BK247.out 1).trans rfl; have hfz66_0 := blk_frozen BK247.out 0; have hfz66_1 := blk_frozen BK247.out 1) | ((with_reducible refine gate_dst (N := 49) rfl ?_); refine Kd.S_make (Kd.slice 51 k51) _ 26 rfl (N := 49) rfl 59 _ _ rfl a0_0 rfl rfl Try.underlying59 (.slice none 0 0) 24 info26 rfl (by decide) (by omega) [] (ok := fun _ => True) (okp := fun _ => True) ⟨_, rfl, Kd.R_nil _ _ _ _ _⟩ (fun _ hk => hk) trivial (oda) (Nat.le_trans (Nat.mul_le_mul_right _ (oda : a0_0.toNat ≤ 11728124029610)) (by omega)) (Below.refl _ _) (Nat.le_refl _) ?_; intro v258 w67 ho68 hb hg_ hnew_; clear hg_ hnew_; (first | rw [← Ny257.out] at ho68 | (simp only [Int.reduceToNat] at ho68; rw [← Ny257.out] at ho68)); have n0_ := ak (Kd.S_lower ho68 (below_size lb)); have n1_ := ak (blk_below (bx BK247.out) hb); have n2_ := ak (blk_below (bx BK248.out) hb); have n3_ := ak (blk_below (bx BK251.out) hb); have n4_ := ak (below_step lb hb); clear BK247; clear BK248; clear BK251; clear HB; have HO259 := n0_; have BK247 := n1_; have BK248 := n2_; have BK251 := n3_; have HB := n4_; clear n0_ n1_ n2_ n3_ n4_; clear hb ho68; have hcz69_0 : w67.cell? ⟨gb247, 0, none⟩ = some (.int .i64 a0_0) := (blk_cell BK247.out 0).trans rfl; have hcz69_1 : w67.cell? ⟨gb247, 1, none⟩ = some (.slice A0_1 l0_1.length c0_1) := (blk_cell BK247.out 1).trans rfl; have hfz69_0 := blk_frozen BK247.out 0; have hfz69_1 := blk_frozen BK247.out 1))
     go_loopg [53] k (fun kq v53 w' => ∃ (x13_1 : List (List (S51))) (x53_1 : Int), v53 = .int .i64 x53_1 ∧ Aside0 (euler_Tour.l0 kq a1 t254 x13_1 l0_1 (l0_1.length : Int) x53_1 a0_0 l0_1 = some (r1, r2, r3, r4)) ∧ Aside0 (kq ≤ k) ∧ Aside0 (Kd.S (Kd.slice 51 k51) 26 w' w.heap.size (fun _ => True) v258 x13_1) ∧ Aside0 (w'.heap[gb247]? = some (.cells #[.int .i64 a0_0, (.slice A0_1 l0_1.length c0_1)] 24 (0, 0))) ∧ Aside0 (w'.heap[gb248]? = some (.cells #[.int .i64 0, (.slice none 0 0)] 28 (0, 0))) ∧ Aside0 (w'.heap[gb251]? = some (.cells #[.int .i64 t249, .int .i64 t250] 53 (0, 0))) ∧ Aside0 (Below w.heap.size w w'))
     case atStart => exact ⟨(y257), (0), (by first | rfl | (simp [*]; done)), H', ⟨Nat.le_refl _⟩, ⟨sx HO259.out⟩, ⟨bx BK247.out⟩, ⟨bx BK248.out⟩, ⟨bx BK251.out⟩, ⟨lb⟩⟩
     case round =>
      clear H'
      try clear c1; try clear c2; try clear p2; try clear c3; try clear c4; try clear c4b0; try clear c4b1; try clear c5; try clear c6; try clear c9; try clear c13; try clear c14; try clear c20; try clear c21; try clear c22; try clear c23; try clear c27; try clear c28; try clear c35; try clear c35b0; try clear c35b1; try clear c35b2; try clear c38; try clear c42; try clear c43; try clear c51; try clear c51b0; try clear c51b1; try clear c52; try clear c52b0; try clear c52b1; try clear c55; try clear c59; try clear c60; try clear hcz10_0; try clear hcz10_1; try clear hcz15_0; try clear hcz15_1; try clear hcz16_0; try clear hcz16_1; try clear hcz18_0; try clear hcz18_1; try clear hcz24_0; try clear hcz24_1; try clear hcz29_0; try clear hcz29_1; try clear hcz30_0; try clear hcz30_1; try clear hcz32_0; try clear hcz32_1; try clear hcz34_0; try clear hcz34_1; try clear hcz39_0; try clear hcz39_1; try clear hcz44_0; try clear hcz44_1; try clear hcz45_0; try clear hcz45_1; try clear hcz47_0; try clear hcz47_1; try clear hcz49_0; try clear hcz49_1; try clear hcz50_0; try clear hcz50_1; try clear hcz56_0; try clear hcz56_1; try clear hcz61_0; try clear hcz61_1; try clear hcz62_0; try clear hcz62_1; try clear hcz64_0; try clear hcz64_1; try clear hcz66_0; try clear hcz66_1; try clear hcz69_0; try clear hcz69_1; try clear hfz10_0; try clear hfz10_1; try clear hfz15_0; try clear hfz15_1; try clear hfz16_0; try clear hfz16_1; try clear hfz18_0; try clear hfz18_1; try clear hfz24_0; try clear hfz24_1; try clear hfz29_0; try clear hfz29_1; try clear hfz30_0; try clear hfz30_1; try clear hfz32_0; try clear hfz32_1; try clear hfz34_0; try clear hfz34_1; try clear hfz39_0; try clear hfz39_1; try clear hfz44_0; try clear hfz44_1; try clear hfz45_0; try clear hfz45_1; try clear hfz47_0; try clear hfz47_1; try clear hfz49_0; try clear hfz49_1; try clear hfz50_0; try clear hfz50_1; try clear hfz56_0; try clear hfz56_1; try clear hfz61_0; try clear hfz61_1; try clear hfz62_0; try clear hfz62_1; try clear hfz64_0; try clear hfz64_1; try clear hfz66_0; try clear hfz66_1; try clear hfz69_0; try clear hfz69_1
      obtain ⟨x13_1, x53_1, rfl, HA, HK1, HO_13, BK247, BK248, BK251, HB⟩ := hrel
      cases gk with
      | zero => exact absurd HA.out (by simp [euler_Tour.l0])
      | succ k1 =>
       have H := HA.out
       clear HA
       simp only [euler_Tour.l0] at H
       by_cases c70 : x53_1 < (l0_1.length : Int)
       ·
        rw [if_pos c70] at H
        have c70b0 : decide (x53_1 < (l0_1.length : Int)) = true := decide_eq_true c70
        clear c70
        by_cases c71 : 0 ≤ x53_1
        rotate_left
        ·
         rw [if_neg c71] at H
         exact absurd H (by simp)
        rw [if_pos c71] at H
        have c71b0 : decide (0 ≤ x53_1) = true := decide_eq_true c71
        clear c71
        by_cases c72 : x53_1 < (l0_1.length : Int)
        rotate_left
        ·
         rw [if_neg c72] at H
         exact absurd H (by simp)
        rw [if_pos c72] at H
        have c72b0 : decide (x53_1 < (l0_1.length : Int)) = true := decide_eq_true c72
        clear c72
        by_cases c73 : 0 ≤ ((rd_T45 l0_1 x53_1).f0)
        rotate_left
        ·
         rw [if_neg c73] at H
         exact absurd H (by simp)
        rw [if_pos c73] at H
        have c73b0 : decide (0 ≤ ((rd_T45 l0_1 x53_1).f0)) = true := decide_eq_true c73
        clear c73
        by_cases c74 : ((rd_T45 l0_1 x53_1).f0) < (x13_1.length : Int)
        rotate_left
        ·
         rw [if_neg c74] at H
         exact absurd H (by simp)
        rw [if_pos c74] at H
        have c74b0 : decide (((rd_T45 l0_1 x53_1).f0) < (x13_1.length : Int)) = true := decide_eq_true c74
        clear c74
        by_cases c75 : (rd_L5 x13_1 ((rd_T45 l0_1 x53_1).f0)).length < 8796093022208
        rotate_left
        ·
         rw [if_neg c75] at H
         exact absurd H (by simp)
        rw [if_pos c75] at H
        have LMc75 := ak c75
        clear c75
        obtain ⟨y263, hy263⟩ : ∃ y_ : List (S51), y_ = ((rd_L5 x13_1 ((rd_T45 l0_1 x53_1).f0)) ++ [(⟨x53_1, false⟩ : S51)]) := ⟨_, rfl⟩
        replace H : ((some (x13_1.set (((rd_T45 l0_1 x53_1).f0) : Int).toNat y263 : List (List (S51)))).bind fun y266 => (if a1 = true then (euler_Tour.l0 k1 a1 t254 y266 l0_1 (l0_1.length : Int) (wrap64 (x53_1 + 1)) a0_0 l0_1) else (if 0 ≤ ((rd_T45 l0_1 x53_1).f1) then (if ((rd_T45 l0_1 x53_1).f1) < (x13_1.length : Int) then (if (rd_L5 y266 ((rd_T45 l0_1 x53_1).f1)).length < 8796093022208 then (euler_Tour.l0 k1 a1 t254 (y266.set (((rd_T45 l0_1 x53_1).f1) : Int).toNat ((rd_L5 y266 ((rd_T45 l0_1 x53_1).f1)) ++ [(⟨x53_1, true⟩ : S51)])) l0_1 (l0_1.length : Int) (wrap64 (x53_1 + 1)) a0_0 l0_1) else (none)) else (none)) else (none)))) = some (r1, r2, r3, r4) := by first | (rw [hy263]; exact H) | exact H
        have Ny263 := ak hy263
        clear hy263
        obtain ⟨y266, hy266⟩ : ∃ y_ : List (List (S51)), y_ = (x13_1.set (((rd_T45 l0_1 x53_1).f0) : Int).toNat y263) := ⟨_, rfl⟩
        replace H : (if a1 = true then (euler_Tour.l0 k1 a1 t254 y266 l0_1 (l0_1.length : Int) (wrap64 (x53_1 + 1)) a0_0 l0_1) else (if 0 ≤ ((rd_T45 l0_1 x53_1).f1) then (if ((rd_T45 l0_1 x53_1).f1) < (x13_1.length : Int) then (if (rd_L5 y266 ((rd_T45 l0_1 x53_1).f1)).length < 8796093022208 then (euler_Tour.l0 k1 a1 t254 (y266.set (((rd_T45 l0_1 x53_1).f1) : Int).toNat ((rd_L5 y266 ((rd_T45 l0_1 x53_1).f1)) ++ [(⟨x53_1, true⟩ : S51)])) l0_1 (l0_1.length : Int) (wrap64 (x53_1 + 1)) a0_0 l0_1) else (none)) else (none)) else (none))) = some (r1, r2, r3, r4) := by first | (rw [hy266]; exact H) | exact H
        have Ny266 := ak hy266
        clear hy266
        by_cases c77 : a1 = true
        ·
         subst c77
         have H1 : (euler_Tour.l0 k1 true t254 y266 l0_1 (l0_1.length : Int) (wrap64 (x53_1 + 1)) a0_0 l0_1) = some (r1, r2, r3, r4) := by rw [if_pos rfl] at H; exact H
         clear H
         have H := H1
         clear H1
         have H' := ak H
         clear H
         have p260 : 0 ≤ (x53_1 : Int) := oda
         have q260 : x53_1 < (l0_1.length : Int) := oda
         obtain ⟨ad260, e260, hx260_0, hx260_1, hx260_2, hx260_3⟩ := at_T45 HR0_1.out x53_1 p260 q260
         cases e260
         (try replace hx260_0 := (HB.out.cell (World.block_lt_of_cell? w _ hx260_0)).trans hx260_0)
         (try replace hx260_1 := (HB.out.cell (World.block_lt_of_cell? w _ hx260_1)).trans hx260_1)
         (try replace hx260_2 := (HB.out.cell (World.block_lt_of_cell? w _ hx260_2)).trans hx260_2)
         (try replace hx260_3 := (HB.out.cell (World.block_lt_of_cell? w _ hx260_3)).trans hx260_3)
         replace p260 := eq_true p260
         replace q260 := eq_true q260
         try go_wp2_with (first | ((with_reducible refine gate_dst (N := 15) rfl ?_); refine box_event ?hg (N := 15) ?hd (cs := #[.int .i64 0, .int .i64 0, .int .i64 0, .int .i64 0]) (t := 45) ?hr ?_; (case hd => rfl); (case hg => rfl); (case hr => first | (go_simp; done) | (go_simp; rfl)); intro gb261 hg w78 hbox hb; have n0_ := ak (Kd.S_below (sx HO_13.out) hb); have n1_ := ak (blk_below (bx BK247.out) hb); have n2_ := ak (blk_below (bx BK248.out) hb); have n3_ := ak (blk_below (bx BK251.out) hb); have n4_ := ak (below_step lb hb); have n5_ := ak (hbox); have n6_ := ak ((by rw [hg]; exact (below_size lb) : w.heap.size ≤ gb261)); have n7_ := ak ((by rw [hg]; exact (below_size lb) : w.heap.size ≤ gb261)); have n8_ := ak ((by rw [hg]; exact Nat.ne_of_lt (blk_lt (g := gb247) (o := .cells #[.int .i64 a0_0, .slice (some ad260) l0_1.length c0_1] 24 (0, 0)) (bx BK247.out)) : gb247 ≠ gb261)); have n9_ := ak ((by rw [hg]; exact Nat.ne_of_gt (blk_lt (g := gb247) (o := .cells #[.int .i64 a0_0, .slice (some ad260) l0_1.length c0_1] 24 (0, 0)) (bx BK247.out)) : gb261 ≠ gb247)); have n10_ := ak ((by rw [hg]; exact Nat.ne_of_lt (blk_lt (g := gb248) (o := .cells #[.int .i64 0, .slice none 0 0] 28 (0, 0)) (bx BK248.out)) : gb248 ≠ gb261)); have n11_ := ak ((by rw [hg]; exact Nat.ne_of_gt (blk_lt (g := gb248) (o := .cells #[.int .i64 0, .slice none 0 0] 28 (0, 0)) (bx BK248.out)) : gb261 ≠ gb248)); have n12_ := ak ((by rw [hg]; exact Nat.ne_of_lt (blk_lt (g := gb251) (o := .cells #[.int .i64 t249, .int .i64 t250] 53 (0, 0)) (bx BK251.out)) : gb251 ≠ gb261)); have n13_ := ak ((by rw [hg]; exact Nat.ne_of_gt (blk_lt (g := gb251) (o := .cells #[.int .i64 t249, .int .i64 t250] 53 (0, 0)) (bx BK251.out)) : gb261 ≠ gb251)); clear HO_13; clear BK247; clear BK248; clear BK251; clear HB; have HO_13 := n0_; have BK247 := n1_; have BK248 := n2_; have BK251 := n3_; have HB := n4_; have BK261 := n5_; have GW261 := n6_; have GE261 := n7_; have NB247_261 := n8_; have NB261_247 := n9_; have NB248_261 := n10_; have NB261_248 := n11_; have NB251_261 := n12_; have NB261_251 := n13_; clear n0_ n1_ n2_ n3_ n4_ n5_ n6_ n7_ n8_ n9_ n10_ n11_ n12_ n13_; clear hb hbox hg; have hnb79 := NB261_247.out; have hnc79 := NB247_261.out; have hnb80 := NB261_248.out; have hnc80 := NB248_261.out; have hnb81 := NB261_251.out; have hnc81 := NB251_261.out; have hcz82_0 : w78.cell? ⟨gb261, 0, none⟩ = some (.int .i64 0) := (blk_cell BK261.out 0).trans rfl; have hcz82_1 : w78.cell? ⟨gb261, 1, none⟩ = some (.int .i64 0) := (blk_cell BK261.out 1).trans rfl; have hcz82_2 : w78.cell? ⟨gb261, 2, none⟩ = some (.int .i64 0) := (blk_cell BK261.out 2).trans rfl; have hcz82_3 : w78.cell? ⟨gb261, 3, none⟩ = some (.int .i64 0) := (blk_cell BK261.out 3).trans rfl; have hfz82_0 := blk_frozen BK261.out 0; have hfz82_1 := blk_frozen BK261.out 1; have hfz82_2 := blk_frozen BK261.out 2; have hfz82_3 := blk_frozen BK261.out 3))
         have n0_ : Aside0 (Kd.S (Kd.slice 51 k51) 26 ((((w78.setCell ⟨gb261, 0, none⟩ (.int .i64 ((rd_T45 l0_1 x53_1).f0))).setCell ⟨gb261, 1, none⟩ (.int .i64 ((rd_T45 l0_1 x53_1).f1))).setCell ⟨gb261, 2, none⟩ (.int .i64 ((rd_T45 l0_1 x53_1).f2))).setCell ⟨gb261, 3, none⟩ (.int .i64 ((rd_T45 l0_1 x53_1).f3))) w.heap.size (fun _ => True) v258 x13_1) := ⟨by exact sx (Kd.S_mono (Kd.S_far (p := ⟨gb261, 3, none⟩) (Kd.S_far (p := ⟨gb261, 2, none⟩) (Kd.S_far (p := ⟨gb261, 1, none⟩) (Kd.S_far (p := ⟨gb261, 0, none⟩) (Kd.S_types HO_13.out BK261.out (by decide)) (fun _ hk => hk.2) (.int .i64 ((rd_T45 l0_1 x53_1).f0))) (fun _ hk => hk.2) (.int .i64 ((rd_T45 l0_1 x53_1).f1))) (fun _ hk => hk.2) (.int .i64 ((rd_T45 l0_1 x53_1).f2))) (fun _ hk => hk.2) (.int .i64 ((rd_T45 l0_1 x53_1).f3))) (fun _ hk => trivial))⟩
         have n1_ : Aside0 (((((w78.setCell ⟨gb261, 0, none⟩ (.int .i64 ((rd_T45 l0_1 x53_1).f0))).setCell ⟨gb261, 1, none⟩ (.int .i64 ((rd_T45 l0_1 x53_1).f1))).setCell ⟨gb261, 2, none⟩ (.int .i64 ((rd_T45 l0_1 x53_1).f2))).setCell ⟨gb261, 3, none⟩ (.int .i64 ((rd_T45 l0_1 x53_1).f3))).heap[gb247]? = some (.cells #[.int .i64 a0_0, .slice (some ad260) l0_1.length c0_1] 24 (0, 0))) := ⟨by (with_reducible repeat (first | refine blk_drewN ?_ _ | refine blk_drew ?_ | refine blk_alloc ?_ _)); refine blk_far ?_ NB247_261.out _; (with_reducible repeat (first | refine blk_drewN ?_ _ | refine blk_drew ?_ | refine blk_alloc ?_ _)); refine blk_far ?_ NB247_261.out _; (with_reducible repeat (first | refine blk_drewN ?_ _ | refine blk_drew ?_ | refine blk_alloc ?_ _)); refine blk_far ?_ NB247_261.out _; (with_reducible repeat (first | refine blk_drewN ?_ _ | refine blk_drew ?_ | refine blk_alloc ?_ _)); refine blk_far ?_ NB247_261.out _; exact bx BK247.out⟩
         have n2_ : Aside0 (((((w78.setCell ⟨gb261, 0, none⟩ (.int .i64 ((rd_T45 l0_1 x53_1).f0))).setCell ⟨gb261, 1, none⟩ (.int .i64 ((rd_T45 l0_1 x53_1).f1))).setCell ⟨gb261, 2, none⟩ (.int .i64 ((rd_T45 l0_1 x53_1).f2))).setCell ⟨gb261, 3, none⟩ (.int .i64 ((rd_T45 l0_1 x53_1).f3))).heap[gb248]? = some (.cells #[.int .i64 0, .slice none 0 0] 28 (0, 0))) := ⟨by (with_reducible repeat (first | refine blk_drewN ?_ _ | refine blk_drew ?_ | refine blk_alloc ?_ _)); refine blk_far ?_ NB248_261.out _; (with_reducible repeat (first | refine blk_drewN ?_ _ | refine blk_drew ?_ | refine blk_alloc ?_ _)); refine blk_far ?_ NB248_261.out _; (with_reducible repeat (first | refine blk_drewN ?_ _ | refine blk_drew ?_ | refine blk_alloc ?_ _)); refine blk_far ?_ NB248_261.out _; (with_reducible repeat (first | refine blk_drewN ?_ _ | refine blk_drew ?_ | refine blk_alloc ?_ _)); refine blk_far ?_ NB248_261.out _; exact bx BK248.out⟩
         have n3_ : Aside0 (((((w78.setCell ⟨gb261, 0, none⟩ (.int .i64 ((rd_T45 l0_1 x53_1).f0))).setCell ⟨gb261, 1, none⟩ (.int .i64 ((rd_T45 l0_1 x53_1).f1))).setCell ⟨gb261, 2, none⟩ (.int .i64 ((rd_T45 l0_1 x53_1).f2))).setCell ⟨gb261, 3, none⟩ (.int .i64 ((rd_T45 l0_1 x53_1).f3))).heap[gb251]? = some (.cells #[.int .i64 t249, .int .i64 t250] 53 (0, 0))) := ⟨by (with_reducible repeat (first | refine blk_drewN ?_ _ | refine blk_drew ?_ | refine blk_alloc ?_ _)); refine blk_far ?_ NB251_261.out _; (with_reducible repeat (first | refine blk_drewN ?_ _ | refine blk_drew ?_ | refine blk_alloc ?_ _)); refine blk_far ?_ NB251_261.out _; (with_reducible repeat (first | refine blk_drewN ?_ _ | refine blk_drew ?_ | refine blk_alloc ?_ _)); refine blk_far ?_ NB251_261.out _; (with_reducible repeat (first | refine blk_drewN ?_ _ | refine blk_drew ?_ | refine blk_alloc ?_ _)); refine blk_far ?_ NB251_261.out _; exact bx BK251.out⟩
         have n4_ : Aside0 (((((w78.setCell ⟨gb261, 0, none⟩ (.int .i64 ((rd_T45 l0_1 x53_1).f0))).setCell ⟨gb261, 1, none⟩ (.int .i64 ((rd_T45 l0_1 x53_1).f1))).setCell ⟨gb261, 2, none⟩ (.int .i64 ((rd_T45 l0_1 x53_1).f2))).setCell ⟨gb261, 3, none⟩ (.int .i64 ((rd_T45 l0_1 x53_1).f3))).heap[gb261]? = some (.cells #[.int .i64 ((rd_T45 l0_1 x53_1).f0), .int .i64 ((rd_T45 l0_1 x53_1).f1), .int .i64 ((rd_T45 l0_1 x53_1).f2), .int .i64 ((rd_T45 l0_1 x53_1).f3)] 45 (0, 0))) := ⟨by (with_reducible repeat (first | refine blk_drewN ?_ _ | refine blk_drew ?_ | refine blk_alloc ?_ _)); refine blk_put (cs := #[.int .i64 ((rd_T45 l0_1 x53_1).f0), .int .i64 ((rd_T45 l0_1 x53_1).f1), .int .i64 ((rd_T45 l0_1 x53_1).f2), .int .i64 0]) ?_ 3 _ rfl; (with_reducible repeat (first | refine blk_drewN ?_ _ | refine blk_drew ?_ | refine blk_alloc ?_ _)); refine blk_put (cs := #[.int .i64 ((rd_T45 l0_1 x53_1).f0), .int .i64 ((rd_T45 l0_1 x53_1).f1), .int .i64 0, .int .i64 0]) ?_ 2 _ rfl; (with_reducible repeat (first | refine blk_drewN ?_ _ | refine blk_drew ?_ | refine blk_alloc ?_ _)); refine blk_put (cs := #[.int .i64 ((rd_T45 l0_1 x53_1).f0), .int .i64 0, .int .i64 0, .int .i64 0]) ?_ 1 _ rfl; (with_reducible repeat (first | refine blk_drewN ?_ _ | refine blk_drew ?_ | refine blk_alloc ?_ _)); refine blk_put (cs := #[.int .i64 0, .int .i64 0, .int .i64 0, .int .i64 0]) ?_ 0 _ rfl; exact bx BK261.out⟩
         have n5_ : Aside0 (Below w.heap.size w ((((w78.setCell ⟨gb261, 0, none⟩ (.int .i64 ((rd_T45 l0_1 x53_1).f0))).setCell ⟨gb261, 1, none⟩ (.int .i64 ((rd_T45 l0_1 x53_1).f1))).setCell ⟨gb261, 2, none⟩ (.int .i64 ((rd_T45 l0_1 x53_1).f2))).setCell ⟨gb261, 3, none⟩ (.int .i64 ((rd_T45 l0_1 x53_1).f3)))) := ⟨lb⟩
         (try clear HO_13)
         (try clear BK247)
         (try clear BK248)
         (try clear BK251)
         (try clear BK261)
         (try clear HB)
         generalize ((((w78.setCell ⟨gb261, 0, none⟩ (.int .i64 ((rd_T45 l0_1 x53_1).f0))).setCell ⟨gb261, 1, none⟩ (.int .i64 ((rd_T45 l0_1 x53_1).f1))).setCell ⟨gb261, 2, none⟩ (.int .i64 ((rd_T45 l0_1 x53_1).f2))).setCell ⟨gb261, 3, none⟩ (.int .i64 ((rd_T45 l0_1 x53_1).f3))) = w83 at n0_ n1_ n2_ n3_ n4_ n5_ ⊢
         have HO_13 := n0_
         have BK247 := n1_
         have BK248 := n2_
         have BK251 := n3_
         have BK261 := n4_
         have HB := n5_
         clear n0_ n1_ n2_ n3_ n4_ n5_
         have n0_ := ak (Kd.S_drew HO_13.out)
         have n1_ := ak (blk_drew BK247.out)
         have n2_ := ak (blk_drew BK248.out)
         have n3_ := ak (blk_drew BK251.out)
         have n4_ := ak (blk_drew BK261.out)
         have n5_ := ak (below_drew1 HB.out)
         clear HO_13
         clear BK247
         clear BK248
         clear BK251
         clear BK261
         clear HB
         have HO_13 := n0_
         have BK247 := n1_
         have BK248 := n2_
         have BK251 := n3_
         have BK261 := n4_
         have HB := n5_
         clear n0_ n1_ n2_ n3_ n4_ n5_
         obtain ⟨Ao85, co85, eo85⟩ := Kd.S_slice HO_13.out
         (first | subst eo85 | (injection eo85 with f1_ f2_ f3_; have f4_ := f1_.symm; have f5_ := f3_.symm; clear f1_ f2_ f3_; subst f4_; subst f5_))
         have p262 : 0 ≤ (((rd_T45 l0_1 x53_1).f0) : Int) := oda
         have q262 : ((rd_T45 l0_1 x53_1).f0) < (x13_1.length : Int) := oda
         obtain ⟨ad262, A262_0, c262_0, e262, hx262_0, hl262_0, hi262_0⟩ := at_L5 (Kd.S_reads' HO_13.out).2.2 ((rd_T45 l0_1 x53_1).f0) p262 q262
         cases e262
         obtain ⟨ce262, hce262, hMe262, hcc262⟩ := Kd.S_get HO_13.out [] ((rd_T45 l0_1 x53_1).f0) p262 (by first | exact q262 | exact oda | (have e_ := (Kd.S_reads' HO_13.out).1; omega))
         obtain ⟨ve262_0, rfl, ge262_0⟩ := hMe262
         have hv262_0 := hcc262 0 _ rfl
         rw [Nat.add_zero, show ((Kd.slice 51 k51)).sz = 1 from rfl, Nat.mul_one] at hv262_0
         replace hv262_0 := Option.some.inj (hv262_0.symm.trans hx262_0)
         rw [hv262_0] at ge262_0
         have HL262_0 := ak (show Kd.R k51 51 _ _ _ _ (rd_L5 x13_1 ((rd_T45 l0_1 x53_1).f0)) from ge262_0)
         clear hv262_0 ge262_0
         have HX262_0 := ak hx262_0
         clear hcc262 hce262
         have HR262_0 := ak hi262_0
         have HC262_0 := ak hl262_0
         clear hi262_0 hl262_0
         replace p262 := eq_true p262
         replace q262 := eq_true q262
         obtain ⟨go86, co86, eo86, gb86, gl86, cl86, HG86⟩ := Kd.S_form HO_13.out (by have h_ : (((rd_T45 l0_1 x53_1).f0) : Int) < ((x13_1.length : Int) : Int) := oda; have h2_ : 0 ≤ (((rd_T45 l0_1 x53_1).f0) : Int) := (oda); omega)
         (first | cases eo86 | (injection eo86 with ea_ en_ ec_; (first | subst ea_ | (injection ea_ with ea_; subst ea_)); subst ec_; clear en_))
         have GB86 := ak gb86
         have GG86 := ak HG86
         clear gb86 gl86 HG86
         (first | simp only [add_plain] at hx262_0 | skip)
         obtain ⟨oki86, ce86, hcl86, hM86, hcc86, _, _, hH86⟩ := Kd.S_elem HO_13.out [] (((rd_T45 l0_1 x53_1).f0) : Int) (oda) (by have h_ : (((rd_T45 l0_1 x53_1).f0) : Int) < ((x13_1.length : Int) : Int) := oda; first | exact h_ | (have e_ := (Kd.S_reads' HO_13.out).1; omega) | simpa using h_)
         obtain ⟨ve86_0, rfl, ge86_0⟩ := hM86
         have hv86 := hcc86 0 _ rfl
         have hX86 := HX262_0.out
         (try simp only [add_plain] at hX86)
         (try simp only [Nat.add_zero] at hv86)
         (try rw [show ((Kd.slice 51 k51)).sz = 1 from rfl, Nat.mul_one] at hv86)
         replace hv86 := Option.some.inj (hv86.symm.trans hX86)
         subst hv86
         clear hX86 hcc86 hcl86
         have UU86 := ak (show Kd.R k51 51 _ w.heap.size oki86 (.slice A262_0 (rd_L5 x13_1 ((rd_T45 l0_1 x53_1).f0)).length c262_0) (rd_L5 x13_1 ((rd_T45 l0_1 x53_1).f0)) from ge86_0)
         have HH86 := ak hH86
         have HN86 := ak (Kd.S_reads' HO_13.out).1
         clear hH86 ge86_0
         refine start_ (n := 14) (S := fun w' => w'.cell? ⟨gb261, 0, none⟩ = some (.int .i64 ((rd_T45 l0_1 x53_1).f0)) ∧ w'.cell? ⟨gb261, 1, none⟩ = some (.int .i64 ((rd_T45 l0_1 x53_1).f1)) ∧ w'.cell? ⟨gb261, 2, none⟩ = some (.int .i64 ((rd_T45 l0_1 x53_1).f2)) ∧ w'.cell? ⟨gb261, 3, none⟩ = some (.int .i64 ((rd_T45 l0_1 x53_1).f3)) ∧ w'.cell? ⟨go86, (((rd_T45 l0_1 x53_1).f0)).toNat, none⟩ = some (.slice A262_0 (rd_L5 x13_1 ((rd_T45 l0_1 x53_1).f0)).length c262_0)) (ds := [13]) #[false, false, false, false, false, false, false, false, false, false, false, false, false, false] (by kernel_rfl) rfl rfl ⟨(blk_cell BK261.out 0).trans rfl, (blk_cell BK261.out 1).trans rfl, (blk_cell BK261.out 2).trans rfl, (blk_cell BK261.out 3).trans rfl, hx262_0⟩ (fun hHeld => ?_); refine with_tabW euler_Tour.tab16 euler_Tour.bits16 (fun HT_ HW_ => ?_)
         generalize w83.drew = w84 at HO_13 BK247 BK248 BK251 BK261 HB GG86 HH86 HL262_0 HR262_0 HX262_0 UU86 hx262_0 hHeld ⊢
         refine pure_ (i := 0) (N := some 58) (v := ?_) (a' := ?_) #[true, false, false, false, false, false, false, false, false, false, false, false, false, false] rfl rfl (any_of HT_.out (by kernel_rfl)) (fun _ _ _ h => h) (Or.inl ⟨by rfl, ?_⟩) ?_ ?_; rotate_left; intro w'; go_simp; with_reducible rfl; rotate_left; simp only [Act.put, List.setIfInBounds_toArray, List.set_cons_zero, List.set_cons_succ, i64_w, i32_w]; rfl
         refine pure_ (i := 1) (N := some 59) (v := ?_) (a' := ?_) #[true, true, false, false, false, false, false, false, false, false, false, false, false, false] rfl rfl (any_of HT_.out (by kernel_rfl)) (fun _ _ _ h => h) (Or.inl ⟨by rfl, ?_⟩) ?_ ?_; rotate_left; intro w'; go_simp; with_reducible rfl; rotate_left; simp only [Act.put, List.setIfInBounds_toArray, List.set_cons_zero, List.set_cons_succ, i64_w, i32_w]; rfl
         refine pure_ (i := 3) (N := some 61) (v := ?_) (a' := ?_) #[true, true, false, true, false, false, false, false, false, false, false, false, false, false] rfl rfl (any_of HT_.out (by kernel_rfl)) (fun _ _ _ h => h) (Or.inl ⟨by rfl, ?_⟩) ?_ ?_; rotate_left; intro w'; go_simp; with_reducible rfl; rotate_left; simp only [Act.put, List.setIfInBounds_toArray, List.set_cons_zero, List.set_cons_succ, i64_w, i32_w]; rfl
         refine pure_ (i := 4) (N := some 62) (v := ?_) (a' := ?_) #[true, true, false, true, true, false, false, false, false, false, false, false, false, false] rfl rfl (any_of HT_.out (by kernel_rfl)) (fun _ _ _ h => h) (Or.inl ⟨by rfl, ?_⟩) ?_ ?_; rotate_left; intro w'; go_simp; with_reducible rfl; rotate_left; simp only [Act.put, List.setIfInBounds_toArray, List.set_cons_zero, List.set_cons_succ, i64_w, i32_w]; rfl
         refine pure_ (i := 8) (N := some 66) (v := ?_) (a' := ?_) #[true, true, false, true, true, false, false, false, true, false, false, false, false, false] rfl rfl (any_of HT_.out (by kernel_rfl)) (fun _ _ _ h => h) (Or.inl ⟨by rfl, ?_⟩) ?_ ?_; rotate_left; intro w'; go_simp; with_reducible rfl; rotate_left; simp only [Act.put, List.setIfInBounds_toArray, List.set_cons_zero, List.set_cons_succ, i64_w, i32_w]; rfl
         refine pure_ (i := 9) (N := some 67) (v := ?_) (a' := ?_) #[true, true, false, true, true, false, false, false, true, true, false, false, false, false] rfl rfl (any_of HT_.out (by kernel_rfl)) (fun _ _ _ h => h) (Or.inl ⟨by rfl, ?_⟩) ?_ ?_; rotate_left; intro w'; go_simp; with_reducible rfl; rotate_left; simp only [Act.put, List.setIfInBounds_toArray, List.set_cons_zero, List.set_cons_succ, i64_w, i32_w]; rfl
         refine take_ (i := 2) (N := some 60) (v := ?_) (a' := ?_) #[true, true, true, true, true, false, false, false, true, true, false, false, false, false] rfl rfl (take_ofW HT_.out HW_.out (by kernel_rfl)) (fun _ _ _ h => h) (Or.inl ⟨by rfl, ?_⟩) hHeld ?_ ?_; rotate_left; rintro w' ⟨s0, s1, s2, s3, s4⟩; go_simp; with_reducible rfl; rotate_left; simp only [Act.put, List.setIfInBounds_toArray, List.set_cons_zero, List.set_cons_succ, i64_w, i32_w]; rfl
         refine take_ (i := 5) (N := some 63) (v := ?_) (a' := ?_) #[true, true, true, true, true, true, false, false, true, true, false, false, false, false] rfl rfl (take_ofW HT_.out HW_.out (by kernel_rfl)) (fun _ _ _ h => h) (Or.inl ⟨by rfl, ?_⟩) hHeld ?_ ?_; rotate_left; rintro w' ⟨s0, s1, s2, s3, s4⟩; go_simp; with_reducible rfl; rotate_left; simp only [Act.put, List.setIfInBounds_toArray, List.set_cons_zero, List.set_cons_succ, i64_w, i32_w]; rfl
         refine pure_ (i := 6) (N := some 64) (v := ?_) (a' := ?_) #[true, true, true, true, true, true, true, false, true, true, false, false, false, false] rfl rfl (any_of HT_.out (by kernel_rfl)) (fun _ _ _ h => h) (Or.inl ⟨by rfl, ?_⟩) ?_ ?_; rotate_left; intro w'; go_simp; with_reducible rfl; rotate_left; simp only [Act.put, List.setIfInBounds_toArray, List.set_cons_zero, List.set_cons_succ, i64_w, i32_w]; rfl
         refine take_ (i := 7) (N := some 65) (v := ?_) (a' := ?_) #[true, true, true, true, true, true, true, true, true, true, false, false, false, false] rfl rfl (take_ofW HT_.out HW_.out (by kernel_rfl)) (fun _ _ _ h => h) (Or.inl ⟨by rfl, ?_⟩) hHeld ?_ ?_; rotate_left; rintro w' ⟨s0, s1, s2, s3, s4⟩; go_simp; with_reducible rfl; rotate_left; simp only [Act.put, List.setIfInBounds_toArray, List.set_cons_zero, List.set_cons_succ, i64_w, i32_w]; rfl
         refine one_ (i := 10) (N := some 68) #[true, true, true, true, true, true, true, true, true, true, true, false, false, false] rfl rfl (one_of HT_.out (by kernel_rfl)) (by decide) (fun K hK => ?_)
         refine value_ (w1 := ?_) (v := ?_) (by rfl) rfl ?_ ?_
         rotate_left 2
         ·
          go_simp
          constructor
          ·
           rfl
          ·
           rfl
         refine hK.out _ _ ⟨(blk_cell (blk_alloc BK261.out _) 0).trans rfl, (blk_cell (blk_alloc BK261.out _) 1).trans rfl, (blk_cell (blk_alloc BK261.out _) 2).trans rfl, (blk_cell (blk_alloc BK261.out _) 3).trans rfl, (World.cell?_alloc_lt _ _ _ (World.block_lt_of_cell? _ _ (hHeld.2.2.2.2))).trans (hHeld.2.2.2.2)⟩ (fun hHeld => ?_)
         clear hK K
         refine norm_ (a' := ?_) ?_ ?_
         rotate_left
         ·
          show Act.put _ (some 68) _ = _
          simp only [Act.put, List.setIfInBounds_toArray, List.set_cons_zero, List.set_cons_succ, i64_w, i32_w]
          rfl
         refine one_ (i := 11) (N := some 69) #[true, true, true, true, true, true, true, true, true, true, true, true, false, false] rfl rfl (one_of HT_.out (by kernel_rfl)) (by decide) (fun K hK => ?_)
         refine Kd.R_append_step k51 (w0 := w) w.heap.size (by rfl) (.tmp 65) (.tmp 68) 26 51 (.agg #[(.int .i64 0), (.bool false)]) 16 rfl Try.underlying26 info51 rfl (by decide) (by omega) (.slice A262_0 (rd_L5 x13_1 ((rd_T45 l0_1 x53_1).f0)).length c262_0) (rd_L5 x13_1 ((rd_T45 l0_1 x53_1).f0)) (⟨x53_1, false⟩ : S51) [.int .i64 x53_1, .bool false] (fun k_ => oki86 k_ ∨ ((fun _ => True)) k_ ∧ w84.heap.size ≤ k_) (fun _ => False) rfl rfl ?aP (fun _ hk => hk.elim) ?aF ?aO ?aB ?aS ?aL ?_
         (case aP => exact k51_mkM _ _ _ (⟨x53_1, false⟩ : S51))
         (case aB => exact lb)
         (case aF => exact (fun k_ hk => .inr ⟨trivial, hk⟩))
         (case aO => exact (by exact rx (Kd.R_mono UU86.out (fun _ hk => .inl hk))))
         (case aS => exact (below_size lb))
         (case aL => have := LMc75.out; omega)
         intro v264 w87 ho hb hg hat
         (first | have HS4_ := cell_grown hg (hHeld.2.2.2.2) (by first | (rw [add_block]; exact (fun e_ => ((HL262_0.out.1 _ e_.symm).2) rfl)) | (show some (Addr.add _ _).block ≠ _; rw [add_block]; exact (fun e_ => ((HL262_0.out.1 _ e_.symm).2) rfl)) | exact (fun e_ => ((HL262_0.out.1 _ e_.symm).2) rfl)) | have HS4_ := cell_grown hg (cell_unalloc (hHeld.2.2.2.2) (by first | (rw [add_block]; exact Kd.S_lt HO_13.out _ rfl) | (show (Addr.add _ _).block < _; rw [add_block]; exact Kd.S_lt HO_13.out _ rfl) | exact Kd.S_lt HO_13.out _ rfl)) (by first | (rw [add_block]; exact (fun e_ => ((HL262_0.out.1 _ e_.symm).2) rfl)) | (show some (Addr.add _ _).block ≠ _; rw [add_block]; exact (fun e_ => ((HL262_0.out.1 _ e_.symm).2) rfl)) | exact (fun e_ => ((HL262_0.out.1 _ e_.symm).2) rfl)))
         rw [← Ny263.out] at ho
         have n0_ := ak (blk_grown (bx BK247.out) hg (Kd.R_ne HL262_0.out BK247.out (by decide)))
         have n1_ := ak (blk_grown (bx BK248.out) hg (Kd.R_ne HL262_0.out BK248.out (by decide)))
         have n2_ := ak (blk_grown (bx BK251.out) hg (Kd.R_ne HL262_0.out BK251.out (by decide)))
         have n3_ := ak (blk_grown (bx BK261.out) hg (Kd.R_ne HL262_0.out BK261.out (by decide)))
         have n4_ := ak (hb)
         have n5_ := ak (Kd.H_grown (Kd.H_widen (by repeat (first | exact HH86.out | refine Kd.H_alloc ?_ _ | refine Kd.H_drewN ?_ _ | refine Kd.H_drew ?_))) hg (fun k_ e_ => .inl (UU86.out.1 k_ e_)))
         have n6_ := ak (ho)
         clear BK247
         clear BK248
         clear BK251
         clear BK261
         clear HB
         clear HH86
         clear HO_13
         clear UU86
         clear HL262_0
         have BK247 := n0_
         have BK248 := n1_
         have BK251 := n2_
         have BK261 := n3_
         have HB := n4_
         have HH86 := n5_
         have HO265 := n6_
         clear n0_ n1_ n2_ n3_ n4_ n5_ n6_
         clear ho hb hg hat
         have p76 : 0 ≤ (((rd_T45 l0_1 x53_1).f0) : Int) := oda
         have q76 : (((rd_T45 l0_1 x53_1).f0) : Int) < ((x13_1.length : Int) : Int) := oda
         replace p76 := eq_true p76
         replace q76 := eq_true q76
         obtain ⟨Ao90, co90, eo90⟩ := Kd.R_slice HO265.out
         (first | subst eo90 | (injection eo90 with f1_ f2_ f3_; have f4_ := f1_.symm; have f5_ := f3_.symm; clear f1_ f2_ f3_; subst f4_; subst f5_))
         obtain ⟨_, _, hraw88, _, _, hcc88, _⟩ := Kd.H_raw HH86.out (oda) (by have h_ : (((rd_T45 l0_1 x53_1).f0) : Int) < ((x13_1.length : Int) : Int) := oda; first | exact h_ | (have e_ := (HN86.out); omega) | simpa using h_)
         obtain ⟨_, hfr88⟩ := Kd.H_at HH86.out (oda) (by have h_ : (((rd_T45 l0_1 x53_1).f0) : Int) < ((x13_1.length : Int) : Int) := oda; first | exact h_ | (have e_ := (HN86.out); omega) | simpa using h_)
         have hx88_0 := hcc88 0 _ rfl
         have hf88_0 := hfr88 0
         (try simp only [Nat.add_zero] at hx88_0 hf88_0)
         (try rw [show ((Kd.slice 51 k51)).sz = 1 from rfl, Nat.mul_one] at hx88_0)
         (try rw [show ((Kd.slice 51 k51)).sz = 1 from rfl, Nat.mul_one] at hf88_0)
         have HP88 := Kd.S_seg0 HH86.out (oda) (by have h_ : (((rd_T45 l0_1 x53_1).f0) : Int) < ((x13_1.length : Int) : Int) := oda; first | exact h_ | (have e_ := (HN86.out); omega) | simpa using h_) (seg := [.slice Ao90 y263.length co90]) (j := 0) (show 1 ≤ 1 from by decide) (x' := y263) (Kd.M_row HO265.out) (fun _ hk => hk)
         (try simp only [show ((Kd.slice 51 k51)).sz = 1 from rfl, Nat.mul_one, Nat.add_zero] at HP88)
         clear hcc88 hfr88
         have HNB247_go86 := ak (show gb247 ≠ go86 from by have h_ := Kd.R_ne hraw88 BK247.out (by decide); intro e_; exact h_ (by rw [e_]; rfl))
         have HNB248_go86 := ak (show gb248 ≠ go86 from by have h_ := Kd.R_ne hraw88 BK248.out (by decide); intro e_; exact h_ (by rw [e_]; rfl))
         have HNB251_go86 := ak (show gb251 ≠ go86 from by have h_ := Kd.R_ne hraw88 BK251.out (by decide); intro e_; exact h_ (by rw [e_]; rfl))
         have HNB261_go86 := ak (show gb261 ≠ go86 from by have h_ := Kd.R_ne hraw88 BK261.out (by decide); intro e_; exact h_ (by rw [e_]; rfl))
         have HS88 := HP88.1
         rw [← Ny266.out] at HS88
         have HQ88 := ak HS88
         obtain ⟨_, hgg88⟩ := Kd.R_typed hraw88 go86 rfl
         have GG88_ := ak hgg88
         clear HP88 HS88 hgg88
         refine hK.out _ _ ⟨(blk_cell BK261.out 0).trans rfl, (blk_cell BK261.out 1).trans rfl, (blk_cell BK261.out 2).trans rfl, (blk_cell BK261.out 3).trans rfl, HS4_⟩ (fun hHeld => ?_)
         clear hK K
         refine norm_ (a' := ?_) ?_ ?_
         rotate_left
         ·
          show Act.put _ (some 69) _ = _
          simp only [Act.put, List.setIfInBounds_toArray, List.set_cons_zero, List.set_cons_succ, i64_w, i32_w]
          rfl
         refine pure_ (i := 12) (N := some 70) (v := ?_) (a' := ?_) #[true, true, true, true, true, true, true, true, true, true, true, true, true, false] rfl rfl (any_of HT_.out (by kernel_rfl)) (fun _ _ _ h => h) (Or.inl ⟨by rfl, ?_⟩) ?_ ?_; rotate_left; intro w'; go_simp; with_reducible rfl; rotate_left; simp only [Act.put, List.setIfInBounds_toArray, List.set_cons_zero, List.set_cons_succ, i64_w, i32_w]; rfl
         refine last_ (i := 13) (N := none) #[true, true, true, true, true, true, true, true, true, true, true, true, true, true] rfl rfl (one_of HT_.out (by kernel_rfl)) (by decide) (fun K hK => ?_)
         refine skip_ (w1 := ?_) (by rfl) rfl ?_ ?_
         rotate_left
         ·
          go_simp
          rfl
         refine hK.out _ _ ?_
         clear hK K
         refine done_ (done_of HT_.out (by kernel_rfl)) ?_
         try go_wp2
         go_roundg k1
         case measure => have := HK1.out; omega
         case rel => exact ⟨(y266), (wrap64 (x53_1 + 1)), (by first | rfl | (simp [*]; done)), H', ⟨by have := HK1.out; omega⟩, ⟨by (with_reducible repeat (first | apply Kd.S_alloc | apply Kd.S_drewN | apply Kd.S_drew)); exact HQ88.out⟩, ⟨by (with_reducible repeat (first | refine blk_drewN ?_ _ | refine blk_drew ?_ | refine blk_alloc ?_ _)); refine blk_far ?_ HNB247_go86.out _; exact bx BK247.out⟩, ⟨by (with_reducible repeat (first | refine blk_drewN ?_ _ | refine blk_drew ?_ | refine blk_alloc ?_ _)); refine blk_far ?_ HNB248_go86.out _; exact bx BK248.out⟩, ⟨by (with_reducible repeat (first | refine blk_drewN ?_ _ | refine blk_drew ?_ | refine blk_alloc ?_ _)); refine blk_far ?_ HNB251_go86.out _; exact bx BK251.out⟩, ⟨by repeat (first | (with_reducible first | exact HB.out | apply below_alloc | apply pw_below_drewN | apply below_drew1 | refine below_set ?_ GB86.out | refine below_set ?_ GE247.out | refine below_set ?_ GE248.out | refine below_set ?_ GE251.out | refine below_set ?_ GE261.out) | exact HB.out)⟩⟩
        ·
         replace c77 := Bool.eq_false_iff.mpr c77
         subst c77
         have H1 : (if 0 ≤ ((rd_T45 l0_1 x53_1).f1) then (if ((rd_T45 l0_1 x53_1).f1) < (x13_1.length : Int) then (if (rd_L5 y266 ((rd_T45 l0_1 x53_1).f1)).length < 8796093022208 then (euler_Tour.l0 k1 false t254 (y266.set (((rd_T45 l0_1 x53_1).f1) : Int).toNat ((rd_L5 y266 ((rd_T45 l0_1 x53_1).f1)) ++ [(⟨x53_1, true⟩ : S51)])) l0_1 (l0_1.length : Int) (wrap64 (x53_1 + 1)) a0_0 l0_1) else (none)) else (none)) else (none)) = some (r1, r2, r3, r4) := by rw [if_neg (show ¬ (false = true) by decide)] at H; exact H
         clear H
         have H := H1
         clear H1
         by_cases c91 : 0 ≤ ((rd_T45 l0_1 x53_1).f1)
         rotate_left
         ·
          rw [if_neg c91] at H
          exact absurd H (by simp)
         rw [if_pos c91] at H
         have c91b0 : decide (0 ≤ ((rd_T45 l0_1 x53_1).f1)) = true := decide_eq_true c91
         clear c91
         by_cases c92 : ((rd_T45 l0_1 x53_1).f1) < (x13_1.length : Int)
         rotate_left
         ·
          rw [if_neg c92] at H
          exact absurd H (by simp)
         rw [if_pos c92] at H
         have c92b0 : decide (((rd_T45 l0_1 x53_1).f1) < (x13_1.length : Int)) = true := decide_eq_true c92
         clear c92
         by_cases c93 : (rd_L5 y266 ((rd_T45 l0_1 x53_1).f1)).length < 8796093022208
         rotate_left
         ·
          rw [if_neg c93] at H
          exact absurd H (by simp)
         rw [if_pos c93] at H
         have LMc93 := ak c93
         clear c93
         obtain ⟨y268, hy268⟩ : ∃ y_ : List (S51), y_ = ((rd_L5 y266 ((rd_T45 l0_1 x53_1).f1)) ++ [(⟨x53_1, true⟩ : S51)]) := ⟨_, rfl⟩
         replace H : (euler_Tour.l0 k1 false t254 (y266.set (((rd_T45 l0_1 x53_1).f1) : Int).toNat y268) l0_1 (l0_1.length : Int) (wrap64 (x53_1 + 1)) a0_0 l0_1) = some (r1, r2, r3, r4) := by first | (rw [hy268]; exact H) | exact H
         have Ny268 := ak hy268
         clear hy268
         obtain ⟨y271, hy271⟩ : ∃ y_ : List (List (S51)), y_ = (y266.set (((rd_T45 l0_1 x53_1).f1) : Int).toNat y268) := ⟨_, rfl⟩
         replace H : (euler_Tour.l0 k1 false t254 y271 l0_1 (l0_1.length : Int) (wrap64 (x53_1 + 1)) a0_0 l0_1) = some (r1, r2, r3, r4) := by first | (rw [hy271]; exact H) | exact H
         have Ny271 := ak hy271
         clear hy271
         have H' := ak H
         clear H
         have p260 : 0 ≤ (x53_1 : Int) := oda
         have q260 : x53_1 < (l0_1.length : Int) := oda
         obtain ⟨ad260, e260, hx260_0, hx260_1, hx260_2, hx260_3⟩ := at_T45 HR0_1.out x53_1 p260 q260
         cases e260
         (try replace hx260_0 := (HB.out.cell (World.block_lt_of_cell? w _ hx260_0)).trans hx260_0)
         (try replace hx260_1 := (HB.out.cell (World.block_lt_of_cell? w _ hx260_1)).trans hx260_1)
         (try replace hx260_2 := (HB.out.cell (World.block_lt_of_cell? w _ hx260_2)).trans hx260_2)
         (try replace hx260_3 := (HB.out.cell (World.block_lt_of_cell? w _ hx260_3)).trans hx260_3)
         replace p260 := eq_true p260
         replace q260 := eq_true q260
         try go_wp2_with (first | ((with_reducible refine gate_dst (N := 15) rfl ?_); refine box_event ?hg (N := 15) ?hd (cs := #[.int .i64 0, .int .i64 0, .int .i64 0, .int .i64 0]) (t := 45) ?hr ?_; (case hd => rfl); (case hg => rfl); (case hr => first | (go_simp; done) | (go_simp; rfl)); intro gb261 hg w95 hbox hb; have n0_ := ak (Kd.S_below (sx HO_13.out) hb); have n1_ := ak (blk_below (bx BK247.out) hb); have n2_ := ak (blk_below (bx BK248.out) hb); have n3_ := ak (blk_below (bx BK251.out) hb); have n4_ := ak (below_step lb hb); have n5_ := ak (hbox); have n6_ := ak ((by rw [hg]; exact (below_size lb) : w.heap.size ≤ gb261)); have n7_ := ak ((by rw [hg]; exact (below_size lb) : w.heap.size ≤ gb261)); have n8_ := ak ((by rw [hg]; exact Nat.ne_of_lt (blk_lt (g := gb247) (o := .cells #[.int .i64 a0_0, .slice (some ad260) l0_1.length c0_1] 24 (0, 0)) (bx BK247.out)) : gb247 ≠ gb261)); have n9_ := ak ((by rw [hg]; exact Nat.ne_of_gt (blk_lt (g := gb247) (o := .cells #[.int .i64 a0_0, .slice (some ad260) l0_1.length c0_1] 24 (0, 0)) (bx BK247.out)) : gb261 ≠ gb247)); have n10_ := ak ((by rw [hg]; exact Nat.ne_of_lt (blk_lt (g := gb248) (o := .cells #[.int .i64 0, .slice none 0 0] 28 (0, 0)) (bx BK248.out)) : gb248 ≠ gb261)); have n11_ := ak ((by rw [hg]; exact Nat.ne_of_gt (blk_lt (g := gb248) (o := .cells #[.int .i64 0, .slice none 0 0] 28 (0, 0)) (bx BK248.out)) : gb261 ≠ gb248)); have n12_ := ak ((by rw [hg]; exact Nat.ne_of_lt (blk_lt (g := gb251) (o := .cells #[.int .i64 t249, .int .i64 t250] 53 (0, 0)) (bx BK251.out)) : gb251 ≠ gb261)); have n13_ := ak ((by rw [hg]; exact Nat.ne_of_gt (blk_lt (g := gb251) (o := .cells #[.int .i64 t249, .int .i64 t250] 53 (0, 0)) (bx BK251.out)) : gb261 ≠ gb251)); clear HO_13; clear BK247; clear BK248; clear BK251; clear HB; have HO_13 := n0_; have BK247 := n1_; have BK248 := n2_; have BK251 := n3_; have HB := n4_; have BK261 := n5_; have GW261 := n6_; have GE261 := n7_; have NB247_261 := n8_; have NB261_247 := n9_; have NB248_261 := n10_; have NB261_248 := n11_; have NB251_261 := n12_; have NB261_251 := n13_; clear n0_ n1_ n2_ n3_ n4_ n5_ n6_ n7_ n8_ n9_ n10_ n11_ n12_ n13_; clear hb hbox hg; have hnb96 := NB261_247.out; have hnc96 := NB247_261.out; have hnb97 := NB261_248.out; have hnc97 := NB248_261.out; have hnb98 := NB261_251.out; have hnc98 := NB251_261.out; have hcz99_0 : w95.cell? ⟨gb261, 0, none⟩ = some (.int .i64 0) := (blk_cell BK261.out 0).trans rfl; have hcz99_1 : w95.cell? ⟨gb261, 1, none⟩ = some (.int .i64 0) := (blk_cell BK261.out 1).trans rfl; have hcz99_2 : w95.cell? ⟨gb261, 2, none⟩ = some (.int .i64 0) := (blk_cell BK261.out 2).trans rfl; have hcz99_3 : w95.cell? ⟨gb261, 3, none⟩ = some (.int .i64 0) := (blk_cell BK261.out 3).trans rfl; have hfz99_0 := blk_frozen BK261.out 0; have hfz99_1 := blk_frozen BK261.out 1; have hfz99_2 := blk_frozen BK261.out 2; have hfz99_3 := blk_frozen BK261.out 3))
         have n0_ : Aside0 (Kd.S (Kd.slice 51 k51) 26 ((((w95.setCell ⟨gb261, 0, none⟩ (.int .i64 ((rd_T45 l0_1 x53_1).f0))).setCell ⟨gb261, 1, none⟩ (.int .i64 ((rd_T45 l0_1 x53_1).f1))).setCell ⟨gb261, 2, none⟩ (.int .i64 ((rd_T45 l0_1 x53_1).f2))).setCell ⟨gb261, 3, none⟩ (.int .i64 ((rd_T45 l0_1 x53_1).f3))) w.heap.size (fun _ => True) v258 x13_1) := ⟨by exact sx (Kd.S_mono (Kd.S_far (p := ⟨gb261, 3, none⟩) (Kd.S_far (p := ⟨gb261, 2, none⟩) (Kd.S_far (p := ⟨gb261, 1, none⟩) (Kd.S_far (p := ⟨gb261, 0, none⟩) (Kd.S_types HO_13.out BK261.out (by decide)) (fun _ hk => hk.2) (.int .i64 ((rd_T45 l0_1 x53_1).f0))) (fun _ hk => hk.2) (.int .i64 ((rd_T45 l0_1 x53_1).f1))) (fun _ hk => hk.2) (.int .i64 ((rd_T45 l0_1 x53_1).f2))) (fun _ hk => hk.2) (.int .i64 ((rd_T45 l0_1 x53_1).f3))) (fun _ hk => trivial))⟩
         have n1_ : Aside0 (((((w95.setCell ⟨gb261, 0, none⟩ (.int .i64 ((rd_T45 l0_1 x53_1).f0))).setCell ⟨gb261, 1, none⟩ (.int .i64 ((rd_T45 l0_1 x53_1).f1))).setCell ⟨gb261, 2, none⟩ (.int .i64 ((rd_T45 l0_1 x53_1).f2))).setCell ⟨gb261, 3, none⟩ (.int .i64 ((rd_T45 l0_1 x53_1).f3))).heap[gb247]? = some (.cells #[.int .i64 a0_0, .slice (some ad260) l0_1.length c0_1] 24 (0, 0))) := ⟨by (with_reducible repeat (first | refine blk_drewN ?_ _ | refine blk_drew ?_ | refine blk_alloc ?_ _)); refine blk_far ?_ NB247_261.out _; (with_reducible repeat (first | refine blk_drewN ?_ _ | refine blk_drew ?_ | refine blk_alloc ?_ _)); refine blk_far ?_ NB247_261.out _; (with_reducible repeat (first | refine blk_drewN ?_ _ | refine blk_drew ?_ | refine blk_alloc ?_ _)); refine blk_far ?_ NB247_261.out _; (with_reducible repeat (first | refine blk_drewN ?_ _ | refine blk_drew ?_ | refine blk_alloc ?_ _)); refine blk_far ?_ NB247_261.out _; exact bx BK247.out⟩
         have n2_ : Aside0 (((((w95.setCell ⟨gb261, 0, none⟩ (.int .i64 ((rd_T45 l0_1 x53_1).f0))).setCell ⟨gb261, 1, none⟩ (.int .i64 ((rd_T45 l0_1 x53_1).f1))).setCell ⟨gb261, 2, none⟩ (.int .i64 ((rd_T45 l0_1 x53_1).f2))).setCell ⟨gb261, 3, none⟩ (.int .i64 ((rd_T45 l0_1 x53_1).f3))).heap[gb248]? = some (.cells #[.int .i64 0, .slice none 0 0] 28 (0, 0))) := ⟨by (with_reducible repeat (first | refine blk_drewN ?_ _ | refine blk_drew ?_ | refine blk_alloc ?_ _)); refine blk_far ?_ NB248_261.out _; (with_reducible repeat (first | refine blk_drewN ?_ _ | refine blk_drew ?_ | refine blk_alloc ?_ _)); refine blk_far ?_ NB248_261.out _; (with_reducible repeat (first | refine blk_drewN ?_ _ | refine blk_drew ?_ | refine blk_alloc ?_ _)); refine blk_far ?_ NB248_261.out _; (with_reducible repeat (first | refine blk_drewN ?_ _ | refine blk_drew ?_ | refine blk_alloc ?_ _)); refine blk_far ?_ NB248_261.out _; exact bx BK248.out⟩
         have n3_ : Aside0 (((((w95.setCell ⟨gb261, 0, none⟩ (.int .i64 ((rd_T45 l0_1 x53_1).f0))).setCell ⟨gb261, 1, none⟩ (.int .i64 ((rd_T45 l0_1 x53_1).f1))).setCell ⟨gb261, 2, none⟩ (.int .i64 ((rd_T45 l0_1 x53_1).f2))).setCell ⟨gb261, 3, none⟩ (.int .i64 ((rd_T45 l0_1 x53_1).f3))).heap[gb251]? = some (.cells #[.int .i64 t249, .int .i64 t250] 53 (0, 0))) := ⟨by (with_reducible repeat (first | refine blk_drewN ?_ _ | refine blk_drew ?_ | refine blk_alloc ?_ _)); refine blk_far ?_ NB251_261.out _; (with_reducible repeat (first | refine blk_drewN ?_ _ | refine blk_drew ?_ | refine blk_alloc ?_ _)); refine blk_far ?_ NB251_261.out _; (with_reducible repeat (first | refine blk_drewN ?_ _ | refine blk_drew ?_ | refine blk_alloc ?_ _)); refine blk_far ?_ NB251_261.out _; (with_reducible repeat (first | refine blk_drewN ?_ _ | refine blk_drew ?_ | refine blk_alloc ?_ _)); refine blk_far ?_ NB251_261.out _; exact bx BK251.out⟩
         have n4_ : Aside0 (((((w95.setCell ⟨gb261, 0, none⟩ (.int .i64 ((rd_T45 l0_1 x53_1).f0))).setCell ⟨gb261, 1, none⟩ (.int .i64 ((rd_T45 l0_1 x53_1).f1))).setCell ⟨gb261, 2, none⟩ (.int .i64 ((rd_T45 l0_1 x53_1).f2))).setCell ⟨gb261, 3, none⟩ (.int .i64 ((rd_T45 l0_1 x53_1).f3))).heap[gb261]? = some (.cells #[.int .i64 ((rd_T45 l0_1 x53_1).f0), .int .i64 ((rd_T45 l0_1 x53_1).f1), .int .i64 ((rd_T45 l0_1 x53_1).f2), .int .i64 ((rd_T45 l0_1 x53_1).f3)] 45 (0, 0))) := ⟨by (with_reducible repeat (first | refine blk_drewN ?_ _ | refine blk_drew ?_ | refine blk_alloc ?_ _)); refine blk_put (cs := #[.int .i64 ((rd_T45 l0_1 x53_1).f0), .int .i64 ((rd_T45 l0_1 x53_1).f1), .int .i64 ((rd_T45 l0_1 x53_1).f2), .int .i64 0]) ?_ 3 _ rfl; (with_reducible repeat (first | refine blk_drewN ?_ _ | refine blk_drew ?_ | refine blk_alloc ?_ _)); refine blk_put (cs := #[.int .i64 ((rd_T45 l0_1 x53_1).f0), .int .i64 ((rd_T45 l0_1 x53_1).f1), .int .i64 0, .int .i64 0]) ?_ 2 _ rfl; (with_reducible repeat (first | refine blk_drewN ?_ _ | refine blk_drew ?_ | refine blk_alloc ?_ _)); refine blk_put (cs := #[.int .i64 ((rd_T45 l0_1 x53_1).f0), .int .i64 0, .int .i64 0, .int .i64 0]) ?_ 1 _ rfl; (with_reducible repeat (first | refine blk_drewN ?_ _ | refine blk_drew ?_ | refine blk_alloc ?_ _)); refine blk_put (cs := #[.int .i64 0, .int .i64 0, .int .i64 0, .int .i64 0]) ?_ 0 _ rfl; exact bx BK261.out⟩
         have n5_ : Aside0 (Below w.heap.size w ((((w95.setCell ⟨gb261, 0, none⟩ (.int .i64 ((rd_T45 l0_1 x53_1).f0))).setCell ⟨gb261, 1, none⟩ (.int .i64 ((rd_T45 l0_1 x53_1).f1))).setCell ⟨gb261, 2, none⟩ (.int .i64 ((rd_T45 l0_1 x53_1).f2))).setCell ⟨gb261, 3, none⟩ (.int .i64 ((rd_T45 l0_1 x53_1).f3)))) := ⟨lb⟩
         (try clear HO_13)
         (try clear BK247)
         (try clear BK248)
         (try clear BK251)
         (try clear BK261)
         (try clear HB)
         generalize ((((w95.setCell ⟨gb261, 0, none⟩ (.int .i64 ((rd_T45 l0_1 x53_1).f0))).setCell ⟨gb261, 1, none⟩ (.int .i64 ((rd_T45 l0_1 x53_1).f1))).setCell ⟨gb261, 2, none⟩ (.int .i64 ((rd_T45 l0_1 x53_1).f2))).setCell ⟨gb261, 3, none⟩ (.int .i64 ((rd_T45 l0_1 x53_1).f3))) = w100 at n0_ n1_ n2_ n3_ n4_ n5_ ⊢
         have HO_13 := n0_
         have BK247 := n1_
         have BK248 := n2_
         have BK251 := n3_
         have BK261 := n4_
         have HB := n5_
         clear n0_ n1_ n2_ n3_ n4_ n5_
         have n0_ := ak (Kd.S_drew HO_13.out)
         have n1_ := ak (blk_drew BK247.out)
         have n2_ := ak (blk_drew BK248.out)
         have n3_ := ak (blk_drew BK251.out)
         have n4_ := ak (blk_drew BK261.out)
         have n5_ := ak (below_drew1 HB.out)
         clear HO_13
         clear BK247
         clear BK248
         clear BK251
         clear BK261
         clear HB
         have HO_13 := n0_
         have BK247 := n1_
         have BK248 := n2_
         have BK251 := n3_
         have BK261 := n4_
         have HB := n5_
         clear n0_ n1_ n2_ n3_ n4_ n5_
         obtain ⟨Ao102, co102, eo102⟩ := Kd.S_slice HO_13.out
         (first | subst eo102 | (injection eo102 with f1_ f2_ f3_; have f4_ := f1_.symm; have f5_ := f3_.symm; clear f1_ f2_ f3_; subst f4_; subst f5_))
         have p262 : 0 ≤ (((rd_T45 l0_1 x53_1).f0) : Int) := oda
         have q262 : ((rd_T45 l0_1 x53_1).f0) < (x13_1.length : Int) := oda
         obtain ⟨ad262, A262_0, c262_0, e262, hx262_0, hl262_0, hi262_0⟩ := at_L5 (Kd.S_reads' HO_13.out).2.2 ((rd_T45 l0_1 x53_1).f0) p262 q262
         cases e262
         obtain ⟨ce262, hce262, hMe262, hcc262⟩ := Kd.S_get HO_13.out [] ((rd_T45 l0_1 x53_1).f0) p262 (by first | exact q262 | exact oda | (have e_ := (Kd.S_reads' HO_13.out).1; omega))
         obtain ⟨ve262_0, rfl, ge262_0⟩ := hMe262
         have hv262_0 := hcc262 0 _ rfl
         rw [Nat.add_zero, show ((Kd.slice 51 k51)).sz = 1 from rfl, Nat.mul_one] at hv262_0
         replace hv262_0 := Option.some.inj (hv262_0.symm.trans hx262_0)
         rw [hv262_0] at ge262_0
         have HL262_0 := ak (show Kd.R k51 51 _ _ _ _ (rd_L5 x13_1 ((rd_T45 l0_1 x53_1).f0)) from ge262_0)
         clear hv262_0 ge262_0
         have HX262_0 := ak hx262_0
         clear hcc262 hce262
         have HR262_0 := ak hi262_0
         have HC262_0 := ak hl262_0
         clear hi262_0 hl262_0
         replace p262 := eq_true p262
         replace q262 := eq_true q262
         obtain ⟨go103, co103, eo103, gb103, gl103, cl103, HG103⟩ := Kd.S_form HO_13.out (by have h_ : (((rd_T45 l0_1 x53_1).f0) : Int) < ((x13_1.length : Int) : Int) := oda; have h2_ : 0 ≤ (((rd_T45 l0_1 x53_1).f0) : Int) := (oda); omega)
         (first | cases eo103 | (injection eo103 with ea_ en_ ec_; (first | subst ea_ | (injection ea_ with ea_; subst ea_)); subst ec_; clear en_))
         have GB103 := ak gb103
         have GG103 := ak HG103
         clear gb103 gl103 HG103
         (first | simp only [add_plain] at hx262_0 | skip)
         obtain ⟨oki103, ce103, hcl103, hM103, hcc103, _, _, hH103⟩ := Kd.S_elem HO_13.out [] (((rd_T45 l0_1 x53_1).f0) : Int) (oda) (by have h_ : (((rd_T45 l0_1 x53_1).f0) : Int) < ((x13_1.length : Int) : Int) := oda; first | exact h_ | (have e_ := (Kd.S_reads' HO_13.out).1; omega) | simpa using h_)
         obtain ⟨ve103_0, rfl, ge103_0⟩ := hM103
         have hv103 := hcc103 0 _ rfl
         have hX103 := HX262_0.out
         (try simp only [add_plain] at hX103)
         (try simp only [Nat.add_zero] at hv103)
         (try rw [show ((Kd.slice 51 k51)).sz = 1 from rfl, Nat.mul_one] at hv103)
         replace hv103 := Option.some.inj (hv103.symm.trans hX103)
         subst hv103
         clear hX103 hcc103 hcl103
         have UU103 := ak (show Kd.R k51 51 _ w.heap.size oki103 (.slice A262_0 (rd_L5 x13_1 ((rd_T45 l0_1 x53_1).f0)).length c262_0) (rd_L5 x13_1 ((rd_T45 l0_1 x53_1).f0)) from ge103_0)
         have HH103 := ak hH103
         have HN103 := ak (Kd.S_reads' HO_13.out).1
         clear hH103 ge103_0
         refine start_ (n := 14) (S := fun w' => w'.cell? ⟨gb261, 0, none⟩ = some (.int .i64 ((rd_T45 l0_1 x53_1).f0)) ∧ w'.cell? ⟨gb261, 1, none⟩ = some (.int .i64 ((rd_T45 l0_1 x53_1).f1)) ∧ w'.cell? ⟨gb261, 2, none⟩ = some (.int .i64 ((rd_T45 l0_1 x53_1).f2)) ∧ w'.cell? ⟨gb261, 3, none⟩ = some (.int .i64 ((rd_T45 l0_1 x53_1).f3)) ∧ w'.cell? ⟨go103, (((rd_T45 l0_1 x53_1).f0)).toNat, none⟩ = some (.slice A262_0 (rd_L5 x13_1 ((rd_T45 l0_1 x53_1).f0)).length c262_0)) (ds := [13]) #[false, false, false, false, false, false, false, false, false, false, false, false, false, false] (by kernel_rfl) rfl rfl ⟨(blk_cell BK261.out 0).trans rfl, (blk_cell BK261.out 1).trans rfl, (blk_cell BK261.out 2).trans rfl, (blk_cell BK261.out 3).trans rfl, hx262_0⟩ (fun hHeld => ?_); refine with_tabW euler_Tour.tab16 euler_Tour.bits16 (fun HT_ HW_ => ?_)
         generalize w100.drew = w101 at HO_13 BK247 BK248 BK251 BK261 HB GG103 HH103 HL262_0 HR262_0 HX262_0 UU103 hx262_0 hHeld ⊢
         refine pure_ (i := 0) (N := some 58) (v := ?_) (a' := ?_) #[true, false, false, false, false, false, false, false, false, false, false, false, false, false] rfl rfl (any_of HT_.out (by kernel_rfl)) (fun _ _ _ h => h) (Or.inl ⟨by rfl, ?_⟩) ?_ ?_; rotate_left; intro w'; go_simp; with_reducible rfl; rotate_left; simp only [Act.put, List.setIfInBounds_toArray, List.set_cons_zero, List.set_cons_succ, i64_w, i32_w]; rfl
         refine pure_ (i := 1) (N := some 59) (v := ?_) (a' := ?_) #[true, true, false, false, false, false, false, false, false, false, false, false, false, false] rfl rfl (any_of HT_.out (by kernel_rfl)) (fun _ _ _ h => h) (Or.inl ⟨by rfl, ?_⟩) ?_ ?_; rotate_left; intro w'; go_simp; with_reducible rfl; rotate_left; simp only [Act.put, List.setIfInBounds_toArray, List.set_cons_zero, List.set_cons_succ, i64_w, i32_w]; rfl
         refine pure_ (i := 3) (N := some 61) (v := ?_) (a' := ?_) #[true, true, false, true, false, false, false, false, false, false, false, false, false, false] rfl rfl (any_of HT_.out (by kernel_rfl)) (fun _ _ _ h => h) (Or.inl ⟨by rfl, ?_⟩) ?_ ?_; rotate_left; intro w'; go_simp; with_reducible rfl; rotate_left; simp only [Act.put, List.setIfInBounds_toArray, List.set_cons_zero, List.set_cons_succ, i64_w, i32_w]; rfl
         refine pure_ (i := 4) (N := some 62) (v := ?_) (a' := ?_) #[true, true, false, true, true, false, false, false, false, false, false, false, false, false] rfl rfl (any_of HT_.out (by kernel_rfl)) (fun _ _ _ h => h) (Or.inl ⟨by rfl, ?_⟩) ?_ ?_; rotate_left; intro w'; go_simp; with_reducible rfl; rotate_left; simp only [Act.put, List.setIfInBounds_toArray, List.set_cons_zero, List.set_cons_succ, i64_w, i32_w]; rfl
         refine pure_ (i := 8) (N := some 66) (v := ?_) (a' := ?_) #[true, true, false, true, true, false, false, false, true, false, false, false, false, false] rfl rfl (any_of HT_.out (by kernel_rfl)) (fun _ _ _ h => h) (Or.inl ⟨by rfl, ?_⟩) ?_ ?_; rotate_left; intro w'; go_simp; with_reducible rfl; rotate_left; simp only [Act.put, List.setIfInBounds_toArray, List.set_cons_zero, List.set_cons_succ, i64_w, i32_w]; rfl
         refine pure_ (i := 9) (N := some 67) (v := ?_) (a' := ?_) #[true, true, false, true, true, false, false, false, true, true, false, false, false, false] rfl rfl (any_of HT_.out (by kernel_rfl)) (fun _ _ _ h => h) (Or.inl ⟨by rfl, ?_⟩) ?_ ?_; rotate_left; intro w'; go_simp; with_reducible rfl; rotate_left; simp only [Act.put, List.setIfInBounds_toArray, List.set_cons_zero, List.set_cons_succ, i64_w, i32_w]; rfl
         refine take_ (i := 2) (N := some 60) (v := ?_) (a' := ?_) #[true, true, true, true, true, false, false, false, true, true, false, false, false, false] rfl rfl (take_ofW HT_.out HW_.out (by kernel_rfl)) (fun _ _ _ h => h) (Or.inl ⟨by rfl, ?_⟩) hHeld ?_ ?_; rotate_left; rintro w' ⟨s0, s1, s2, s3, s4⟩; go_simp; with_reducible rfl; rotate_left; simp only [Act.put, List.setIfInBounds_toArray, List.set_cons_zero, List.set_cons_succ, i64_w, i32_w]; rfl
         refine take_ (i := 5) (N := some 63) (v := ?_) (a' := ?_) #[true, true, true, true, true, true, false, false, true, true, false, false, false, false] rfl rfl (take_ofW HT_.out HW_.out (by kernel_rfl)) (fun _ _ _ h => h) (Or.inl ⟨by rfl, ?_⟩) hHeld ?_ ?_; rotate_left; rintro w' ⟨s0, s1, s2, s3, s4⟩; go_simp; with_reducible rfl; rotate_left; simp only [Act.put, List.setIfInBounds_toArray, List.set_cons_zero, List.set_cons_succ, i64_w, i32_w]; rfl
         refine pure_ (i := 6) (N := some 64) (v := ?_) (a' := ?_) #[true, true, true, true, true, true, true, false, true, true, false, false, false, false] rfl rfl (any_of HT_.out (by kernel_rfl)) (fun _ _ _ h => h) (Or.inl ⟨by rfl, ?_⟩) ?_ ?_; rotate_left; intro w'; go_simp; with_reducible rfl; rotate_left; simp only [Act.put, List.setIfInBounds_toArray, List.set_cons_zero, List.set_cons_succ, i64_w, i32_w]; rfl
         refine take_ (i := 7) (N := some 65) (v := ?_) (a' := ?_) #[true, true, true, true, true, true, true, true, true, true, false, false, false, false] rfl rfl (take_ofW HT_.out HW_.out (by kernel_rfl)) (fun _ _ _ h => h) (Or.inl ⟨by rfl, ?_⟩) hHeld ?_ ?_; rotate_left; rintro w' ⟨s0, s1, s2, s3, s4⟩; go_simp; with_reducible rfl; rotate_left; simp only [Act.put, List.setIfInBounds_toArray, List.set_cons_zero, List.set_cons_succ, i64_w, i32_w]; rfl
         refine one_ (i := 10) (N := some 68) #[true, true, true, true, true, true, true, true, true, true, true, false, false, false] rfl rfl (one_of HT_.out (by kernel_rfl)) (by decide) (fun K hK => ?_)
         refine value_ (w1 := ?_) (v := ?_) (by rfl) rfl ?_ ?_
         rotate_left 2
         ·
          go_simp
          constructor
          ·
           rfl
          ·
           rfl
         refine hK.out _ _ ⟨(blk_cell (blk_alloc BK261.out _) 0).trans rfl, (blk_cell (blk_alloc BK261.out _) 1).trans rfl, (blk_cell (blk_alloc BK261.out _) 2).trans rfl, (blk_cell (blk_alloc BK261.out _) 3).trans rfl, (World.cell?_alloc_lt _ _ _ (World.block_lt_of_cell? _ _ (hHeld.2.2.2.2))).trans (hHeld.2.2.2.2)⟩ (fun hHeld => ?_)
         clear hK K
         refine norm_ (a' := ?_) ?_ ?_
         rotate_left
         ·
          show Act.put _ (some 68) _ = _
          simp only [Act.put, List.setIfInBounds_toArray, List.set_cons_zero, List.set_cons_succ, i64_w, i32_w]
          rfl
         refine one_ (i := 11) (N := some 69) #[true, true, true, true, true, true, true, true, true, true, true, true, false, false] rfl rfl (one_of HT_.out (by kernel_rfl)) (by decide) (fun K hK => ?_)
         refine Kd.R_append_step k51 (w0 := w) w.heap.size (by rfl) (.tmp 65) (.tmp 68) 26 51 (.agg #[(.int .i64 0), (.bool false)]) 16 rfl Try.underlying26 info51 rfl (by decide) (by omega) (.slice A262_0 (rd_L5 x13_1 ((rd_T45 l0_1 x53_1).f0)).length c262_0) (rd_L5 x13_1 ((rd_T45 l0_1 x53_1).f0)) (⟨x53_1, false⟩ : S51) [.int .i64 x53_1, .bool false] (fun k_ => oki103 k_ ∨ ((fun _ => True)) k_ ∧ w101.heap.size ≤ k_) (fun _ => False) rfl rfl ?aP (fun _ hk => hk.elim) ?aF ?aO ?aB ?aS ?aL ?_
         (case aP => exact k51_mkM _ _ _ (⟨x53_1, false⟩ : S51))
         (case aB => exact lb)
         (case aF => exact (fun k_ hk => .inr ⟨trivial, hk⟩))
         (case aO => exact (by exact rx (Kd.R_mono UU103.out (fun _ hk => .inl hk))))
         (case aS => exact (below_size lb))
         (case aL => have := LMc75.out; omega)
         intro v264 w104 ho hb hg hat
         (first | have HS4_ := cell_grown hg (hHeld.2.2.2.2) (by first | (rw [add_block]; exact (fun e_ => ((HL262_0.out.1 _ e_.symm).2) rfl)) | (show some (Addr.add _ _).block ≠ _; rw [add_block]; exact (fun e_ => ((HL262_0.out.1 _ e_.symm).2) rfl)) | exact (fun e_ => ((HL262_0.out.1 _ e_.symm).2) rfl)) | have HS4_ := cell_grown hg (cell_unalloc (hHeld.2.2.2.2) (by first | (rw [add_block]; exact Kd.S_lt HO_13.out _ rfl) | (show (Addr.add _ _).block < _; rw [add_block]; exact Kd.S_lt HO_13.out _ rfl) | exact Kd.S_lt HO_13.out _ rfl)) (by first | (rw [add_block]; exact (fun e_ => ((HL262_0.out.1 _ e_.symm).2) rfl)) | (show some (Addr.add _ _).block ≠ _; rw [add_block]; exact (fun e_ => ((HL262_0.out.1 _ e_.symm).2) rfl)) | exact (fun e_ => ((HL262_0.out.1 _ e_.symm).2) rfl)))
         rw [← Ny263.out] at ho
         have n0_ := ak (blk_grown (bx BK247.out) hg (Kd.R_ne HL262_0.out BK247.out (by decide)))
         have n1_ := ak (blk_grown (bx BK248.out) hg (Kd.R_ne HL262_0.out BK248.out (by decide)))
         have n2_ := ak (blk_grown (bx BK251.out) hg (Kd.R_ne HL262_0.out BK251.out (by decide)))
         have n3_ := ak (blk_grown (bx BK261.out) hg (Kd.R_ne HL262_0.out BK261.out (by decide)))
         have n4_ := ak (hb)
         have n5_ := ak (Kd.H_grown (Kd.H_widen (by repeat (first | exact HH103.out | refine Kd.H_alloc ?_ _ | refine Kd.H_drewN ?_ _ | refine Kd.H_drew ?_))) hg (fun k_ e_ => .inl (UU103.out.1 k_ e_)))
         have n6_ := ak (ho)
         clear BK247
         clear BK248
         clear BK251
         clear BK261
         clear HB
         clear HH103
         clear HO_13
         clear UU103
         clear HL262_0
         have BK247 := n0_
         have BK248 := n1_
         have BK251 := n2_
         have BK261 := n3_
         have HB := n4_
         have HH103 := n5_
         have HO265 := n6_
         clear n0_ n1_ n2_ n3_ n4_ n5_ n6_
         clear ho hb hg hat
         have p76 : 0 ≤ (((rd_T45 l0_1 x53_1).f0) : Int) := oda
         have q76 : (((rd_T45 l0_1 x53_1).f0) : Int) < ((x13_1.length : Int) : Int) := oda
         replace p76 := eq_true p76
         replace q76 := eq_true q76
         obtain ⟨Ao107, co107, eo107⟩ := Kd.R_slice HO265.out
         (first | subst eo107 | (injection eo107 with f1_ f2_ f3_; have f4_ := f1_.symm; have f5_ := f3_.symm; clear f1_ f2_ f3_; subst f4_; subst f5_))
         obtain ⟨_, _, hraw105, _, _, hcc105, _⟩ := Kd.H_raw HH103.out (oda) (by have h_ : (((rd_T45 l0_1 x53_1).f0) : Int) < ((x13_1.length : Int) : Int) := oda; first | exact h_ | (have e_ := (HN103.out); omega) | simpa using h_)
         obtain ⟨_, hfr105⟩ := Kd.H_at HH103.out (oda) (by have h_ : (((rd_T45 l0_1 x53_1).f0) : Int) < ((x13_1.length : Int) : Int) := oda; first | exact h_ | (have e_ := (HN103.out); omega) | simpa using h_)
         have hx105_0 := hcc105 0 _ rfl
         have hf105_0 := hfr105 0
         (try simp only [Nat.add_zero] at hx105_0 hf105_0)
         (try rw [show ((Kd.slice 51 k51)).sz = 1 from rfl, Nat.mul_one] at hx105_0)
         (try rw [show ((Kd.slice 51 k51)).sz = 1 from rfl, Nat.mul_one] at hf105_0)
         have HP105 := Kd.S_seg0 HH103.out (oda) (by have h_ : (((rd_T45 l0_1 x53_1).f0) : Int) < ((x13_1.length : Int) : Int) := oda; first | exact h_ | (have e_ := (HN103.out); omega) | simpa using h_) (seg := [.slice Ao107 y263.length co107]) (j := 0) (show 1 ≤ 1 from by decide) (x' := y263) (Kd.M_row HO265.out) (fun _ hk => hk)
         (try simp only [show ((Kd.slice 51 k51)).sz = 1 from rfl, Nat.mul_one, Nat.add_zero] at HP105)
         clear hcc105 hfr105
         have HNB247_go103 := ak (show gb247 ≠ go103 from by have h_ := Kd.R_ne hraw105 BK247.out (by decide); intro e_; exact h_ (by rw [e_]; rfl))
         have HNB248_go103 := ak (show gb248 ≠ go103 from by have h_ := Kd.R_ne hraw105 BK248.out (by decide); intro e_; exact h_ (by rw [e_]; rfl))
         have HNB251_go103 := ak (show gb251 ≠ go103 from by have h_ := Kd.R_ne hraw105 BK251.out (by decide); intro e_; exact h_ (by rw [e_]; rfl))
         have HNB261_go103 := ak (show gb261 ≠ go103 from by have h_ := Kd.R_ne hraw105 BK261.out (by decide); intro e_; exact h_ (by rw [e_]; rfl))
         have HS105 := HP105.1
         rw [← Ny266.out] at HS105
         have HQ105 := ak HS105
         obtain ⟨_, hgg105⟩ := Kd.R_typed hraw105 go103 rfl
         have GG105_ := ak hgg105
         clear HP105 HS105 hgg105
         refine hK.out _ _ ⟨(blk_cell BK261.out 0).trans rfl, (blk_cell BK261.out 1).trans rfl, (blk_cell BK261.out 2).trans rfl, (blk_cell BK261.out 3).trans rfl, HS4_⟩ (fun hHeld => ?_)
         clear hK K
         refine norm_ (a' := ?_) ?_ ?_
         rotate_left
         ·
          show Act.put _ (some 69) _ = _
          simp only [Act.put, List.setIfInBounds_toArray, List.set_cons_zero, List.set_cons_succ, i64_w, i32_w]
          rfl
         refine pure_ (i := 12) (N := some 70) (v := ?_) (a' := ?_) #[true, true, true, true, true, true, true, true, true, true, true, true, true, false] rfl rfl (any_of HT_.out (by kernel_rfl)) (fun _ _ _ h => h) (Or.inl ⟨by rfl, ?_⟩) ?_ ?_; rotate_left; intro w'; go_simp; with_reducible rfl; rotate_left; simp only [Act.put, List.setIfInBounds_toArray, List.set_cons_zero, List.set_cons_succ, i64_w, i32_w]; rfl
         refine last_ (i := 13) (N := none) #[true, true, true, true, true, true, true, true, true, true, true, true, true, true] rfl rfl (one_of HT_.out (by kernel_rfl)) (by decide) (fun K hK => ?_)
         refine skip_ (w1 := ?_) (by rfl) rfl ?_ ?_
         rotate_left
         ·
          go_simp
          rfl
         refine hK.out _ _ ?_
         clear hK K
         refine done_ (done_of HT_.out (by kernel_rfl)) ?_
         try go_wp2
         have n0_ : Aside0 (Kd.S (Kd.slice 51 k51) 26 (w104.setCell ⟨go103, (((rd_T45 l0_1 x53_1).f0) : Int).toNat, none⟩ (.slice Ao107 y263.length co107)) w.heap.size (fun _ => True) (.slice (some ⟨go103, 0, none⟩) x13_1.length co102) y266) := ⟨by (with_reducible repeat (first | apply Kd.S_alloc | apply Kd.S_drewN | apply Kd.S_drew)); exact HQ105.out⟩
         have n1_ : Aside0 ((w104.setCell ⟨go103, (((rd_T45 l0_1 x53_1).f0) : Int).toNat, none⟩ (.slice Ao107 y263.length co107)).heap[gb247]? = some (.cells #[.int .i64 a0_0, .slice (some ad260) l0_1.length c0_1] 24 (0, 0))) := ⟨by (with_reducible repeat (first | refine blk_drewN ?_ _ | refine blk_drew ?_ | refine blk_alloc ?_ _)); refine blk_far ?_ HNB247_go103.out _; exact bx BK247.out⟩
         have n2_ : Aside0 ((w104.setCell ⟨go103, (((rd_T45 l0_1 x53_1).f0) : Int).toNat, none⟩ (.slice Ao107 y263.length co107)).heap[gb248]? = some (.cells #[.int .i64 0, .slice none 0 0] 28 (0, 0))) := ⟨by (with_reducible repeat (first | refine blk_drewN ?_ _ | refine blk_drew ?_ | refine blk_alloc ?_ _)); refine blk_far ?_ HNB248_go103.out _; exact bx BK248.out⟩
         have n3_ : Aside0 ((w104.setCell ⟨go103, (((rd_T45 l0_1 x53_1).f0) : Int).toNat, none⟩ (.slice Ao107 y263.length co107)).heap[gb251]? = some (.cells #[.int .i64 t249, .int .i64 t250] 53 (0, 0))) := ⟨by (with_reducible repeat (first | refine blk_drewN ?_ _ | refine blk_drew ?_ | refine blk_alloc ?_ _)); refine blk_far ?_ HNB251_go103.out _; exact bx BK251.out⟩
         have n4_ : Aside0 ((w104.setCell ⟨go103, (((rd_T45 l0_1 x53_1).f0) : Int).toNat, none⟩ (.slice Ao107 y263.length co107)).heap[gb261]? = some (.cells #[.int .i64 ((rd_T45 l0_1 x53_1).f0), .int .i64 ((rd_T45 l0_1 x53_1).f1), .int .i64 ((rd_T45 l0_1 x53_1).f2), .int .i64 ((rd_T45 l0_1 x53_1).f3)] 45 (0, 0))) := ⟨by (with_reducible repeat (first | refine blk_drewN ?_ _ | refine blk_drew ?_ | refine blk_alloc ?_ _)); refine blk_far ?_ HNB261_go103.out _; exact bx BK261.out⟩
         have n5_ : Aside0 (Below w.heap.size w (w104.setCell ⟨go103, (((rd_T45 l0_1 x53_1).f0) : Int).toNat, none⟩ (.slice Ao107 y263.length co107))) := ⟨by repeat (first | (with_reducible first | exact HB.out | apply below_alloc | apply pw_below_drewN | apply below_drew1 | refine below_set ?_ GB103.out | refine below_set ?_ GE247.out | refine below_set ?_ GE248.out | refine below_set ?_ GE251.out | refine below_set ?_ GE261.out) | exact HB.out)⟩
         (try clear HO_13)
         (try clear BK247)
         (try clear BK248)
         (try clear BK251)
         (try clear BK261)
         (try clear HB)
         generalize (w104.setCell ⟨go103, (((rd_T45 l0_1 x53_1).f0) : Int).toNat, none⟩ (.slice Ao107 y263.length co107)) = w108 at n0_ n1_ n2_ n3_ n4_ n5_ ⊢
         have HO_13 := n0_
         have BK247 := n1_
         have BK248 := n2_
         have BK251 := n3_
         have BK261 := n4_
         have HB := n5_
         clear n0_ n1_ n2_ n3_ n4_ n5_
         have n0_ := ak (Kd.S_drew HO_13.out)
         have n1_ := ak (blk_drew BK247.out)
         have n2_ := ak (blk_drew BK248.out)
         have n3_ := ak (blk_drew BK251.out)
         have n4_ := ak (blk_drew BK261.out)
         have n5_ := ak (below_drew1 HB.out)
         clear HO_13
         clear BK247
         clear BK248
         clear BK251
         clear BK261
         clear HB
         have HO_13 := n0_
         have BK247 := n1_
         have BK248 := n2_
         have BK251 := n3_
         have BK261 := n4_
         have HB := n5_
         clear n0_ n1_ n2_ n3_ n4_ n5_
         have p267 : 0 ≤ (((rd_T45 l0_1 x53_1).f1) : Int) := oda
         have q267 : ((rd_T45 l0_1 x53_1).f1) < (y266.length : Int) := (by have h_ : (((rd_T45 l0_1 x53_1).f1) : Int) < ((x13_1.length : Int) : Int) := oda; first | (have e_ := (Kd.S_reads' HO_13.out).1; omega) | simpa only [Ny266.out, List.length_set] using h_)
         have ql267 : ((((rd_T45 l0_1 x53_1).f1) : Int) < ((x13_1.length : Int) : Int)) = True := eq_true (oda)
         obtain ⟨ad267, A267_0, c267_0, e267, hx267_0, hl267_0, hi267_0⟩ := at_L5 (Kd.S_reads' HO_13.out).2.2 ((rd_T45 l0_1 x53_1).f1) p267 q267
         obtain rfl : (⟨go103, 0, none⟩ : Addr) = ad267 := (by injection e267)
         obtain ⟨ce267, hce267, hMe267, hcc267⟩ := Kd.S_get HO_13.out [] ((rd_T45 l0_1 x53_1).f1) p267 (by first | exact q267 | exact oda | (have e_ := (Kd.S_reads' HO_13.out).1; omega))
         obtain ⟨ve267_0, rfl, ge267_0⟩ := hMe267
         have hv267_0 := hcc267 0 _ rfl
         rw [Nat.add_zero, show ((Kd.slice 51 k51)).sz = 1 from rfl, Nat.mul_one] at hv267_0
         replace hv267_0 := Option.some.inj (hv267_0.symm.trans hx267_0)
         rw [hv267_0] at ge267_0
         have HL267_0 := ak (show Kd.R k51 51 _ _ _ _ (rd_L5 y266 ((rd_T45 l0_1 x53_1).f1)) from ge267_0)
         clear hv267_0 ge267_0
         have HX267_0 := ak hx267_0
         clear hcc267 hce267
         (first | simp only [add_plain] at hx267_0 | simp only [add_at] at hx267_0 | simp only [Addr.add, Nat.zero_add] at hx267_0 | skip)
         have HR267_0 := ak hi267_0
         have HC267_0 := ak hl267_0
         clear hi267_0 hl267_0
         replace p267 := eq_true p267
         replace q267 := eq_true q267
         obtain ⟨oki110, ce110, hcl110, hM110, hcc110, _, _, hH110⟩ := Kd.S_elem HO_13.out [] (((rd_T45 l0_1 x53_1).f1) : Int) (oda) (by have h_ : (((rd_T45 l0_1 x53_1).f1) : Int) < ((x13_1.length : Int) : Int) := oda; first | exact h_ | (have e_ := (Kd.S_reads' HO_13.out).1; omega) | simpa using h_)
         obtain ⟨ve110_0, rfl, ge110_0⟩ := hM110
         have hv110 := hcc110 0 _ rfl
         have hX110 := HX267_0.out
         (try simp only [add_plain] at hX110)
         (try simp only [Nat.add_zero] at hv110)
         (try rw [show ((Kd.slice 51 k51)).sz = 1 from rfl, Nat.mul_one] at hv110)
         replace hv110 := Option.some.inj (hv110.symm.trans hX110)
         subst hv110
         clear hX110 hcc110 hcl110
         have UU110 := ak (show Kd.R k51 51 _ w.heap.size oki110 (.slice A267_0 (rd_L5 y266 ((rd_T45 l0_1 x53_1).f1)).length c267_0) (rd_L5 y266 ((rd_T45 l0_1 x53_1).f1)) from ge110_0)
         have HH110 := ak hH110
         have HN110 := ak (Kd.S_reads' HO_13.out).1
         clear hH110 ge110_0
         refine start_ (n := 14) (S := fun w' => w'.cell? ⟨gb261, 0, none⟩ = some (.int .i64 ((rd_T45 l0_1 x53_1).f0)) ∧ w'.cell? ⟨gb261, 1, none⟩ = some (.int .i64 ((rd_T45 l0_1 x53_1).f1)) ∧ w'.cell? ⟨gb261, 2, none⟩ = some (.int .i64 ((rd_T45 l0_1 x53_1).f2)) ∧ w'.cell? ⟨gb261, 3, none⟩ = some (.int .i64 ((rd_T45 l0_1 x53_1).f3)) ∧ w'.cell? ⟨go103, (((rd_T45 l0_1 x53_1).f1)).toNat, none⟩ = some (.slice A267_0 (rd_L5 y266 ((rd_T45 l0_1 x53_1).f1)).length c267_0)) (ds := [13]) #[false, false, false, false, false, false, false, false, false, false, false, false, false, false] (by kernel_rfl) rfl rfl ⟨(blk_cell BK261.out 0).trans rfl, (blk_cell BK261.out 1).trans rfl, (blk_cell BK261.out 2).trans rfl, (blk_cell BK261.out 3).trans rfl, hx267_0⟩ (fun hHeld => ?_); refine with_tabW euler_Tour.tab18 euler_Tour.bits18 (fun HT_ HW_ => ?_)
         generalize w108.drew = w109 at HO_13 BK247 BK248 BK251 BK261 HB HH110 HL267_0 HQ105 HR267_0 HX267_0 UU110 hx267_0 hHeld ⊢
         refine pure_ (i := 0) (N := some 73) (v := ?_) (a' := ?_) #[true, false, false, false, false, false, false, false, false, false, false, false, false, false] rfl rfl (any_of HT_.out (by kernel_rfl)) (fun _ _ _ h => h) (Or.inl ⟨by rfl, ?_⟩) ?_ ?_; rotate_left; intro w'; go_simp; with_reducible rfl; rotate_left; simp only [Act.put, List.setIfInBounds_toArray, List.set_cons_zero, List.set_cons_succ, i64_w, i32_w]; rfl
         refine pure_ (i := 1) (N := some 74) (v := ?_) (a' := ?_) #[true, true, false, false, false, false, false, false, false, false, false, false, false, false] rfl rfl (any_of HT_.out (by kernel_rfl)) (fun _ _ _ h => h) (Or.inl ⟨by rfl, ?_⟩) ?_ ?_; rotate_left; intro w'; go_simp; with_reducible rfl; rotate_left; simp only [Act.put, List.setIfInBounds_toArray, List.set_cons_zero, List.set_cons_succ, i64_w, i32_w]; rfl
         refine pure_ (i := 3) (N := some 76) (v := ?_) (a' := ?_) #[true, true, false, true, false, false, false, false, false, false, false, false, false, false] rfl rfl (any_of HT_.out (by kernel_rfl)) (fun _ _ _ h => h) (Or.inl ⟨by rfl, ?_⟩) ?_ ?_; rotate_left; intro w'; go_simp; with_reducible rfl; rotate_left; simp only [Act.put, List.setIfInBounds_toArray, List.set_cons_zero, List.set_cons_succ, i64_w, i32_w]; rfl
         refine pure_ (i := 4) (N := some 77) (v := ?_) (a' := ?_) #[true, true, false, true, true, false, false, false, false, false, false, false, false, false] rfl rfl (any_of HT_.out (by kernel_rfl)) (fun _ _ _ h => h) (Or.inl ⟨by rfl, ?_⟩) ?_ ?_; rotate_left; intro w'; go_simp; with_reducible rfl; rotate_left; simp only [Act.put, List.setIfInBounds_toArray, List.set_cons_zero, List.set_cons_succ, i64_w, i32_w]; rfl
         refine pure_ (i := 8) (N := some 81) (v := ?_) (a' := ?_) #[true, true, false, true, true, false, false, false, true, false, false, false, false, false] rfl rfl (any_of HT_.out (by kernel_rfl)) (fun _ _ _ h => h) (Or.inl ⟨by rfl, ?_⟩) ?_ ?_; rotate_left; intro w'; go_simp; with_reducible rfl; rotate_left; simp only [Act.put, List.setIfInBounds_toArray, List.set_cons_zero, List.set_cons_succ, i64_w, i32_w]; rfl
         refine pure_ (i := 9) (N := some 82) (v := ?_) (a' := ?_) #[true, true, false, true, true, false, false, false, true, true, false, false, false, false] rfl rfl (any_of HT_.out (by kernel_rfl)) (fun _ _ _ h => h) (Or.inl ⟨by rfl, ?_⟩) ?_ ?_; rotate_left; intro w'; go_simp; with_reducible rfl; rotate_left; simp only [Act.put, List.setIfInBounds_toArray, List.set_cons_zero, List.set_cons_succ, i64_w, i32_w]; rfl
         refine take_ (i := 2) (N := some 75) (v := ?_) (a' := ?_) #[true, true, true, true, true, false, false, false, true, true, false, false, false, false] rfl rfl (take_ofW HT_.out HW_.out (by kernel_rfl)) (fun _ _ _ h => h) (Or.inl ⟨by rfl, ?_⟩) hHeld ?_ ?_; rotate_left; rintro w' ⟨s0, s1, s2, s3, s4⟩; go_simp; with_reducible rfl; rotate_left; simp only [Act.put, List.setIfInBounds_toArray, List.set_cons_zero, List.set_cons_succ, i64_w, i32_w]; rfl
         refine take_ (i := 5) (N := some 78) (v := ?_) (a' := ?_) #[true, true, true, true, true, true, false, false, true, true, false, false, false, false] rfl rfl (take_ofW HT_.out HW_.out (by kernel_rfl)) (fun _ _ _ h => h) (Or.inl ⟨by rfl, ?_⟩) hHeld ?_ ?_; rotate_left; rintro w' ⟨s0, s1, s2, s3, s4⟩; go_simp; with_reducible rfl; rotate_left; simp only [Act.put, List.setIfInBounds_toArray, List.set_cons_zero, List.set_cons_succ, i64_w, i32_w]; rfl
         refine pure_ (i := 6) (N := some 79) (v := ?_) (a' := ?_) #[true, true, true, true, true, true, true, false, true, true, false, false, false, false] rfl rfl (any_of HT_.out (by kernel_rfl)) (fun _ _ _ h => h) (Or.inl ⟨by rfl, ?_⟩) ?_ ?_; rotate_left; intro w'; go_simp; with_reducible rfl; rotate_left; simp only [Act.put, List.setIfInBounds_toArray, List.set_cons_zero, List.set_cons_succ, i64_w, i32_w]; rfl
         refine take_ (i := 7) (N := some 80) (v := ?_) (a' := ?_) #[true, true, true, true, true, true, true, true, true, true, false, false, false, false] rfl rfl (take_ofW HT_.out HW_.out (by kernel_rfl)) (fun _ _ _ h => h) (Or.inl ⟨by rfl, ?_⟩) hHeld ?_ ?_; rotate_left; rintro w' ⟨s0, s1, s2, s3, s4⟩; go_simp; with_reducible rfl; rotate_left; simp only [Act.put, List.setIfInBounds_toArray, List.set_cons_zero, List.set_cons_succ, i64_w, i32_w]; rfl
         refine one_ (i := 10) (N := some 83) #[true, true, true, true, true, true, true, true, true, true, true, false, false, false] rfl rfl (one_of HT_.out (by kernel_rfl)) (by decide) (fun K hK => ?_)
         refine value_ (w1 := ?_) (v := ?_) (by rfl) rfl ?_ ?_
         rotate_left 2
         ·
          go_simp
          constructor
          ·
           rfl
          ·
           rfl
         refine hK.out _ _ ⟨(blk_cell (blk_alloc BK261.out _) 0).trans rfl, (blk_cell (blk_alloc BK261.out _) 1).trans rfl, (blk_cell (blk_alloc BK261.out _) 2).trans rfl, (blk_cell (blk_alloc BK261.out _) 3).trans rfl, (World.cell?_alloc_lt _ _ _ (World.block_lt_of_cell? _ _ (hHeld.2.2.2.2))).trans (hHeld.2.2.2.2)⟩ (fun hHeld => ?_)
         clear hK K
         refine norm_ (a' := ?_) ?_ ?_
         rotate_left
         ·
          show Act.put _ (some 83) _ = _
          simp only [Act.put, List.setIfInBounds_toArray, List.set_cons_zero, List.set_cons_succ, i64_w, i32_w]
          rfl
         refine one_ (i := 11) (N := some 84) #[true, true, true, true, true, true, true, true, true, true, true, true, false, false] rfl rfl (one_of HT_.out (by kernel_rfl)) (by decide) (fun K hK => ?_)
         refine Kd.R_append_step k51 (w0 := w) w.heap.size (by rfl) (.tmp 80) (.tmp 83) 26 51 (.agg #[(.int .i64 0), (.bool false)]) 16 rfl Try.underlying26 info51 rfl (by decide) (by omega) (.slice A267_0 (rd_L5 y266 ((rd_T45 l0_1 x53_1).f1)).length c267_0) (rd_L5 y266 ((rd_T45 l0_1 x53_1).f1)) (⟨x53_1, true⟩ : S51) [.int .i64 x53_1, .bool true] (fun k_ => oki110 k_ ∨ ((fun _ => True)) k_ ∧ w109.heap.size ≤ k_) (fun _ => False) rfl rfl ?aP (fun _ hk => hk.elim) ?aF ?aO ?aB ?aS ?aL ?_
         (case aP => exact k51_mkM _ _ _ (⟨x53_1, true⟩ : S51))
         (case aB => exact lb)
         (case aF => exact (fun k_ hk => .inr ⟨trivial, hk⟩))
         (case aO => exact (by exact rx (Kd.R_mono UU110.out (fun _ hk => .inl hk))))
         (case aS => exact (below_size lb))
         (case aL => have := LMc93.out; omega)
         intro v269 w111 ho hb hg hat
         (first | have HS4_ := cell_grown hg (hHeld.2.2.2.2) (by first | (rw [add_block]; exact (fun e_ => ((HL267_0.out.1 _ e_.symm).2) rfl)) | (show some (Addr.add _ _).block ≠ _; rw [add_block]; exact (fun e_ => ((HL267_0.out.1 _ e_.symm).2) rfl)) | exact (fun e_ => ((HL267_0.out.1 _ e_.symm).2) rfl)) | have HS4_ := cell_grown hg (cell_unalloc (hHeld.2.2.2.2) (by first | (rw [add_block]; exact Kd.S_lt HO_13.out _ rfl) | (show (Addr.add _ _).block < _; rw [add_block]; exact Kd.S_lt HO_13.out _ rfl) | exact Kd.S_lt HO_13.out _ rfl)) (by first | (rw [add_block]; exact (fun e_ => ((HL267_0.out.1 _ e_.symm).2) rfl)) | (show some (Addr.add _ _).block ≠ _; rw [add_block]; exact (fun e_ => ((HL267_0.out.1 _ e_.symm).2) rfl)) | exact (fun e_ => ((HL267_0.out.1 _ e_.symm).2) rfl)))
         rw [← Ny268.out] at ho
         have n0_ := ak (blk_grown (bx BK247.out) hg (Kd.R_ne HL267_0.out BK247.out (by decide)))
         have n1_ := ak (blk_grown (bx BK248.out) hg (Kd.R_ne HL267_0.out BK248.out (by decide)))
         have n2_ := ak (blk_grown (bx BK251.out) hg (Kd.R_ne HL267_0.out BK251.out (by decide)))
         have n3_ := ak (blk_grown (bx BK261.out) hg (Kd.R_ne HL267_0.out BK261.out (by decide)))
         have n4_ := ak (hb)
         have n5_ := ak (Kd.H_grown (Kd.H_widen (by repeat (first | exact HH110.out | refine Kd.H_alloc ?_ _ | refine Kd.H_drewN ?_ _ | refine Kd.H_drew ?_))) hg (fun k_ e_ => .inl (UU110.out.1 k_ e_)))
         have n6_ := ak (ho)
         clear BK247
         clear BK248
         clear BK251
         clear BK261
         clear HB
         clear HH110
         clear HO_13
         clear UU110
         clear HL267_0
         have BK247 := n0_
         have BK248 := n1_
         have BK251 := n2_
         have BK261 := n3_
         have HB := n4_
         have HH110 := n5_
         have HO270 := n6_
         clear n0_ n1_ n2_ n3_ n4_ n5_ n6_
         clear ho hb hg hat
         have p94 : 0 ≤ (((rd_T45 l0_1 x53_1).f1) : Int) := oda
         have q94 : (((rd_T45 l0_1 x53_1).f1) : Int) < ((x13_1.length : Int) : Int) := oda
         replace p94 := eq_true p94
         replace q94 := eq_true q94
         obtain ⟨Ao114, co114, eo114⟩ := Kd.R_slice HO270.out
         (first | subst eo114 | (injection eo114 with f1_ f2_ f3_; have f4_ := f1_.symm; have f5_ := f3_.symm; clear f1_ f2_ f3_; subst f4_; subst f5_))
         obtain ⟨_, _, hraw112, _, _, hcc112, _⟩ := Kd.H_raw HH110.out (oda) (by have h_ : (((rd_T45 l0_1 x53_1).f1) : Int) < ((x13_1.length : Int) : Int) := oda; first | exact h_ | (have e_ := (HN110.out); omega) | simpa using h_)
         obtain ⟨_, hfr112⟩ := Kd.H_at HH110.out (oda) (by have h_ : (((rd_T45 l0_1 x53_1).f1) : Int) < ((x13_1.length : Int) : Int) := oda; first | exact h_ | (have e_ := (HN110.out); omega) | simpa using h_)
         have hx112_0 := hcc112 0 _ rfl
         have hf112_0 := hfr112 0
         (try simp only [Nat.add_zero] at hx112_0 hf112_0)
         (try rw [show ((Kd.slice 51 k51)).sz = 1 from rfl, Nat.mul_one] at hx112_0)
         (try rw [show ((Kd.slice 51 k51)).sz = 1 from rfl, Nat.mul_one] at hf112_0)
         have HP112 := Kd.S_seg0 HH110.out (oda) (by have h_ : (((rd_T45 l0_1 x53_1).f1) : Int) < ((x13_1.length : Int) : Int) := oda; first | exact h_ | (have e_ := (HN110.out); omega) | simpa using h_) (seg := [.slice Ao114 y268.length co114]) (j := 0) (show 1 ≤ 1 from by decide) (x' := y268) (Kd.M_row HO270.out) (fun _ hk => hk)
         (try simp only [show ((Kd.slice 51 k51)).sz = 1 from rfl, Nat.mul_one, Nat.add_zero] at HP112)
         clear hcc112 hfr112
         have HNB247_go103 := ak (show gb247 ≠ go103 from by have h_ := Kd.R_ne hraw112 BK247.out (by decide); intro e_; exact h_ (by rw [e_]; rfl))
         have HNB248_go103 := ak (show gb248 ≠ go103 from by have h_ := Kd.R_ne hraw112 BK248.out (by decide); intro e_; exact h_ (by rw [e_]; rfl))
         have HNB251_go103 := ak (show gb251 ≠ go103 from by have h_ := Kd.R_ne hraw112 BK251.out (by decide); intro e_; exact h_ (by rw [e_]; rfl))
         have HNB261_go103 := ak (show gb261 ≠ go103 from by have h_ := Kd.R_ne hraw112 BK261.out (by decide); intro e_; exact h_ (by rw [e_]; rfl))
         have HS112 := HP112.1
         rw [← Ny271.out] at HS112
         have HQ112 := ak HS112
         obtain ⟨_, hgg112⟩ := Kd.R_typed hraw112 go103 rfl
         have GG112_ := ak hgg112
         clear HP112 HS112 hgg112
         refine hK.out _ _ ⟨(blk_cell BK261.out 0).trans rfl, (blk_cell BK261.out 1).trans rfl, (blk_cell BK261.out 2).trans rfl, (blk_cell BK261.out 3).trans rfl, HS4_⟩ (fun hHeld => ?_)
         clear hK K
         refine norm_ (a' := ?_) ?_ ?_
         rotate_left
         ·
          show Act.put _ (some 84) _ = _
          simp only [Act.put, List.setIfInBounds_toArray, List.set_cons_zero, List.set_cons_succ, i64_w, i32_w]
          rfl
         refine pure_ (i := 12) (N := some 85) (v := ?_) (a' := ?_) #[true, true, true, true, true, true, true, true, true, true, true, true, true, false] rfl rfl (any_of HT_.out (by kernel_rfl)) (fun _ _ _ h => h) (Or.inl ⟨by rfl, ?_⟩) ?_ ?_; rotate_left; intro w'; go_simp; with_reducible rfl; rotate_left; simp only [Act.put, List.setIfInBounds_toArray, List.set_cons_zero, List.set_cons_succ, i64_w, i32_w]; rfl
         refine last_ (i := 13) (N := none) #[true, true, true, true, true, true, true, true, true, true, true, true, true, true] rfl rfl (one_of HT_.out (by kernel_rfl)) (by decide) (fun K hK => ?_)
         refine skip_ (w1 := ?_) (by rfl) rfl ?_ ?_
         rotate_left
         ·
          go_simp
          rfl
         refine hK.out _ _ ?_
         clear hK K
         refine done_ (done_of HT_.out (by kernel_rfl)) ?_
         try go_wp2
         go_roundg k1
         case measure => have := HK1.out; omega
         case rel => exact ⟨(y271), (wrap64 (x53_1 + 1)), (by first | rfl | (simp [*]; done)), H', ⟨by have := HK1.out; omega⟩, ⟨by (with_reducible repeat (first | apply Kd.S_alloc | apply Kd.S_drewN | apply Kd.S_drew)); exact HQ112.out⟩, ⟨by (with_reducible repeat (first | refine blk_drewN ?_ _ | refine blk_drew ?_ | refine blk_alloc ?_ _)); refine blk_far ?_ HNB247_go103.out _; exact bx BK247.out⟩, ⟨by (with_reducible repeat (first | refine blk_drewN ?_ _ | refine blk_drew ?_ | refine blk_alloc ?_ _)); refine blk_far ?_ HNB248_go103.out _; exact bx BK248.out⟩, ⟨by (with_reducible repeat (first | refine blk_drewN ?_ _ | refine blk_drew ?_ | refine blk_alloc ?_ _)); refine blk_far ?_ HNB251_go103.out _; exact bx BK251.out⟩, ⟨by repeat (first | (with_reducible first | exact HB.out | apply below_alloc | apply pw_below_drewN | apply below_drew1 | refine below_set ?_ GB103.out | refine below_set ?_ GE247.out | refine below_set ?_ GE248.out | refine below_set ?_ GE251.out | refine below_set ?_ GE261.out) | exact HB.out)⟩⟩
       ·
        rw [if_neg c70] at H
        have c70b0 : decide (x53_1 < (l0_1.length : Int)) = false := decide_eq_false c70
        clear c70
        replace H := Option.bind_eq_some_iff.mp H
        obtain ⟨⟨t272, t275⟩, A1150, H⟩ := H
        replace H : (some (t254, t272, 0, 0)) = some (r1, r2, r3, r4) := H
        have A115 := ak A1150
        clear A1150
        simp only [Option.some.injEq, Prod.mk.injEq] at H
        obtain ⟨rfl, rfl, rfl, rfl⟩ := H
        have hnb116 := NB247_248.out
        have hnc116 := NB248_247.out
        have hnb117 := NB247_251.out
        have hnc117 := NB251_247.out
        have hcz118_0 : wr.cell? ⟨gb247, 0, none⟩ = some (.int .i64 a0_0) := (blk_cell BK247.out 0).trans rfl
        have hcz118_1 : wr.cell? ⟨gb247, 1, none⟩ = some (.slice A0_1 l0_1.length c0_1) := (blk_cell BK247.out 1).trans rfl
        have hfz118_0 := blk_frozen BK247.out 0
        have hfz118_1 := blk_frozen BK247.out 1
        obtain ⟨Ao119, co119, eo119⟩ := Kd.S_slice HO_13.out
        subst eo119
        go_wp2_with (first | ((with_reducible refine gate_callee (f := 23) rfl ?_); refine goesL_ (some 91) rfl rfl Try.func23 (by kernel_rfl) rfl #[.agg #[.int .i64 a0_0, .slice A0_1 l0_1.length c0_1], .int .i64 t254, .slice Ao119 x13_1.length co119] rfl (by (try simp only [List.map_toArray, List.map_cons, List.map_nil]); first | done | rfl | (simp only [List.length_drop, List.length_take]; rfl)) ?_; (with_reducible refine (euler_circuit.calls k1 a0_0 _ _ l0_1 t254 (fun k_ => w.heap.size ≤ k_ ∧ k_ ≠ gb247 ∧ k_ ≠ gb248 ∧ k_ ≠ gb251) (.slice Ao119 x13_1.length co119) x13_1 t272 t275 w _ ?side1 ?side2 ?side3 ?side4 A115.out).mono ?_); (case side1 => repeat (first | (with_reducible first | exact HB.out | apply below_alloc | apply pw_below_drewN | apply below_drew1 | refine below_set ?_ GE247.out | refine below_set ?_ GE248.out | refine below_set ?_ GE251.out) | exact HB.out)); (case side2 => exact Kd.C_kept_came k45_heap HR0_1.out lb (fun k_ hs_ => hs_.1)); (case side3 => exact HC0_1.out); (case side4 => exact Kd.S_R (Kd.S_mono (Kd.S_bound (Kd.S_types (Kd.S_types (Kd.S_types HO_13.out BK247.out (by decide)) BK248.out (by decide)) BK251.out (by decide))) (fun k_ hk_ => ⟨hk_.2.1, hk_.1.1.1.2, hk_.1.1.2, hk_.1.2⟩))); rintro e w120 ⟨v273, rfl, ho0, hy0, hb, hkp⟩; refine ⟨_, rfl, ?_⟩; have n1_ := ak (blk_kept (bx BK247.out) hkp (fun hs_ => hs_.2.1 rfl)); have n2_ := ak (blk_kept (bx BK248.out) hkp (fun hs_ => hs_.2.2.1 rfl)); have n3_ := ak (blk_kept (bx BK251.out) hkp (fun hs_ => hs_.2.2.2 rfl)); have n4_ := ak (Kd.R_mono (ok' := fun k_ => True) ho0 (fun k_ hk_ => trivial)); have n5_ := ak (hb); clear HO_13; clear BK247; clear BK248; clear BK251; clear HB; have BK247 := n1_; have BK248 := n2_; have BK251 := n3_; have HO274 := n4_; have HB := n5_; clear n1_ n2_ n3_ n4_ n5_; (try clear hb); (try clear hkp); (try clear ho0); (try clear hy0); obtain ⟨Ao121, co121, eo121⟩ := Kd.R_slice HO274.out; subst eo121; have hnb122 := NB248_251.out; have hnc122 := NB251_248.out; have hcz123_0 : w120.cell? ⟨gb248, 0, none⟩ = some (.int .i64 0) := (blk_cell BK248.out 0).trans rfl; have hcz123_1 : w120.cell? ⟨gb248, 1, none⟩ = some (.slice none 0 0) := (blk_cell BK248.out 1).trans rfl; have hfz123_0 := blk_frozen BK248.out 0; have hfz123_1 := blk_frozen BK248.out 1))
        refine bodyPost_ret (results_ctt rfl _ _ gb248 28 #[.int .i64 t254, .slice Ao121 t272.length co121] (0, 0) _ rfl (by (with_reducible repeat (first | refine blk_drewN ?_ _ | refine blk_drew ?_ | refine blk_alloc ?_ _)); refine blk_put (cs := #[.int .i64 t254, .slice none 0 0]) ?_ 1 _ rfl; (with_reducible repeat (first | refine blk_drewN ?_ _ | refine blk_drew ?_ | refine blk_alloc ?_ _)); refine blk_put (cs := #[.int .i64 0, .slice none 0 0]) ?_ 0 _ rfl; exact bx BK248.out) Try.underlying28 rfl (by kernel_rfl)) rfl ?_
        exact ⟨_, by first | rfl | (simp [errW_none, errW_some] <;> rfl) | (simp [*, errW_none, errW_some] <;> rfl), by exact rx (Kd.R_mono (Kd.R_far (p := ⟨gb248, 1, none⟩) (Kd.R_far (p := ⟨gb248, 0, none⟩) (Kd.R_types HO274.out BK248.out (by decide)) (fun _ hk => hk.2) (.int .i64 t254)) (fun _ hk => hk.2) (.slice Ao121 t272.length co121)) (fun _ hk => trivial)), lb⟩
 ·
  rw [if_neg c4] at H
  have c4b0 : (t249 == 0) = false := beq_eq_false_iff_ne.mpr c4
  have c4b1 : (t249 != 0) = true := bne_iff_ne.mpr c4
  simp only [Option.some.injEq, Prod.mk.injEq] at H
  obtain ⟨rfl, rfl, rfl, rfl⟩ := H
  go_enter Try.func9, Try.ntmps9
  try go_wp2_with (first | ((with_reducible refine gate_dst (N := 2) rfl ?_); refine box_event ?hg (N := 2) ?hd (cs := #[.int .i64 a0_0, .slice A0_1 l0_1.length c0_1]) (t := 24) ?hr ?_; (case hd => rfl); (case hg => rfl); (case hr => first | (go_simp; done) | (go_simp; rfl)); intro gb247 hg w124 hbox hb; have n0_ := ak (below_step lb hb); have n1_ := ak (hbox); have n2_ := ak ((by rw [hg]; exact (below_size lb) : w.heap.size ≤ gb247)); have n3_ := ak ((by rw [hg]; exact (below_size lb) : w.heap.size ≤ gb247)); clear HB; have HB := n0_; have BK247 := n1_; have GW247 := n2_; have GE247 := n3_; clear n0_ n1_ n2_ n3_; clear hb hbox hg) | ((with_reducible refine gate_dst (N := 4) rfl ?_); refine box_event ?hg (N := 4) ?hd (cs := #[.int .i64 0, .slice none 0 0]) (t := 28) ?hr ?_; (case hd => rfl); (case hg => rfl); (case hr => first | (go_simp; done) | (go_simp; rfl)); intro gb248 hg w125 hbox hb; have n0_ := ak (blk_below (bx BK247.out) hb); have n1_ := ak (below_step lb hb); have n2_ := ak (hbox); have n3_ := ak ((by rw [hg]; exact (below_size lb) : w.heap.size ≤ gb248)); have n4_ := ak ((by rw [hg]; exact (below_size lb) : w.heap.size ≤ gb248)); have n5_ := ak ((by rw [hg]; exact Nat.ne_of_lt (blk_lt (g := gb247) (o := .cells #[.int .i64 a0_0, .slice A0_1 l0_1.length c0_1] 24 (0, 0)) (bx BK247.out)) : gb247 ≠ gb248)); have n6_ := ak ((by rw [hg]; exact Nat.ne_of_gt (blk_lt (g := gb247) (o := .cells #[.int .i64 a0_0, .slice A0_1 l0_1.length c0_1] 24 (0, 0)) (bx BK247.out)) : gb248 ≠ gb247)); clear BK247; clear HB; have BK247 := n0_; have HB := n1_; have BK248 := n2_; have GW248 := n3_; have GE248 := n4_; have NB247_248 := n5_; have NB248_247 := n6_; clear n0_ n1_ n2_ n3_ n4_ n5_ n6_; clear hb hbox hg; have hnb126 := NB247_248.out; have hnc126 := NB248_247.out; have hcz127_0 : w125.cell? ⟨gb247, 0, none⟩ = some (.int .i64 a0_0) := (blk_cell BK247.out 0).trans rfl; have hcz127_1 : w125.cell? ⟨gb247, 1, none⟩ = some (.slice A0_1 l0_1.length c0_1) := (blk_cell BK247.out 1).trans rfl; have hfz127_0 := blk_frozen BK247.out 0; have hfz127_1 := blk_frozen BK247.out 1) | ((with_reducible refine gate_callee (f := 20) rfl ?_); refine goesL_ (some 17) rfl rfl Try.func20 (by kernel_rfl) rfl #[.agg #[.int .i64 a0_0, .slice A0_1 l0_1.length c0_1]] rfl (by (try simp only [List.map_toArray, List.map_cons, List.map_nil]); first | done | rfl | (simp only [List.length_drop, List.length_take]; rfl)) ?_; (with_reducible refine (graph_Check.calls k a0_0 _ _ l0_1 t249 t250 _ ?side1 ?side2 A3.out).mono ?_); (case side1 => repeat (first | exact (Kd.C_below HR0_1.out HB.out) | (with_reducible refine Kd.C_alloc ?_ _) | (with_reducible refine Kd.C_drewN ?_ _) | (with_reducible refine Kd.C_drew ?_))); (case side2 => exact HC0_1.out); rintro e w128 ⟨rfl, hb⟩; refine ⟨_, rfl, ?_⟩; have n0_ := ak (blk_below (bx BK247.out) hb); have n1_ := ak (blk_below (bx BK248.out) hb); have n2_ := ak (below_step lb hb); clear BK247; clear BK248; clear HB; have BK247 := n0_; have BK248 := n1_; have HB := n2_; clear n0_ n1_ n2_; (try clear hb); (try clear hb2); (try clear hk); (try clear hi)) | ((with_reducible refine gate_dst (N := 7) rfl ?_); refine box_event ?hg (N := 7) ?hd (cs := #[.int .i64 0, .int .i64 0]) (t := 53) ?hr ?_; (case hd => rfl); (case hg => rfl); (case hr => first | (go_simp; done) | (go_simp; rfl)); intro gb251 hg w129 hbox hb; have n0_ := ak (blk_below (bx BK247.out) hb); have n1_ := ak (blk_below (bx BK248.out) hb); have n2_ := ak (below_step lb hb); have n3_ := ak (hbox); have n4_ := ak ((by rw [hg]; exact (below_size lb) : w.heap.size ≤ gb251)); have n5_ := ak ((by rw [hg]; exact (below_size lb) : w.heap.size ≤ gb251)); have n6_ := ak ((by rw [hg]; exact Nat.ne_of_lt (blk_lt (g := gb247) (o := .cells #[.int .i64 a0_0, .slice A0_1 l0_1.length c0_1] 24 (0, 0)) (bx BK247.out)) : gb247 ≠ gb251)); have n7_ := ak ((by rw [hg]; exact Nat.ne_of_gt (blk_lt (g := gb247) (o := .cells #[.int .i64 a0_0, .slice A0_1 l0_1.length c0_1] 24 (0, 0)) (bx BK247.out)) : gb251 ≠ gb247)); have n8_ := ak ((by rw [hg]; exact Nat.ne_of_lt (blk_lt (g := gb248) (o := .cells #[.int .i64 0, .slice none 0 0] 28 (0, 0)) (bx BK248.out)) : gb248 ≠ gb251)); have n9_ := ak ((by rw [hg]; exact Nat.ne_of_gt (blk_lt (g := gb248) (o := .cells #[.int .i64 0, .slice none 0 0] 28 (0, 0)) (bx BK248.out)) : gb251 ≠ gb248)); clear BK247; clear BK248; clear HB; have BK247 := n0_; have BK248 := n1_; have HB := n2_; have BK251 := n3_; have GW251 := n4_; have GE251 := n5_; have NB247_251 := n6_; have NB251_247 := n7_; have NB248_251 := n8_; have NB251_248 := n9_; clear n0_ n1_ n2_ n3_ n4_ n5_ n6_ n7_ n8_ n9_; clear hb hbox hg; have hnb130 := NB251_247.out; have hnc130 := NB247_251.out; have hnb131 := NB251_248.out; have hnc131 := NB248_251.out; have hcz132_0 : w129.cell? ⟨gb251, 0, none⟩ = some (.int .i64 0) := (blk_cell BK251.out 0).trans rfl; have hcz132_1 : w129.cell? ⟨gb251, 1, none⟩ = some (.int .i64 0) := (blk_cell BK251.out 1).trans rfl; have hfz132_0 := blk_frozen BK251.out 0; have hfz132_1 := blk_frozen BK251.out 1))
  have n0_ : Aside0 (((w129.setCell ⟨gb251, 0, none⟩ (.int .i64 t249)).setCell ⟨gb251, 1, none⟩ (.int .i64 t250)).heap[gb247]? = some (.cells #[.int .i64 a0_0, .slice A0_1 l0_1.length c0_1] 24 (0, 0))) := ⟨by (with_reducible repeat (first | refine blk_drewN ?_ _ | refine blk_drew ?_ | refine blk_alloc ?_ _)); refine blk_far ?_ NB247_251.out _; (with_reducible repeat (first | refine blk_drewN ?_ _ | refine blk_drew ?_ | refine blk_alloc ?_ _)); refine blk_far ?_ NB247_251.out _; exact bx BK247.out⟩
  have n1_ : Aside0 (((w129.setCell ⟨gb251, 0, none⟩ (.int .i64 t249)).setCell ⟨gb251, 1, none⟩ (.int .i64 t250)).heap[gb248]? = some (.cells #[.int .i64 0, .slice none 0 0] 28 (0, 0))) := ⟨by (with_reducible repeat (first | refine blk_drewN ?_ _ | refine blk_drew ?_ | refine blk_alloc ?_ _)); refine blk_far ?_ NB248_251.out _; (with_reducible repeat (first | refine blk_drewN ?_ _ | refine blk_drew ?_ | refine blk_alloc ?_ _)); refine blk_far ?_ NB248_251.out _; exact bx BK248.out⟩
  have n2_ : Aside0 (((w129.setCell ⟨gb251, 0, none⟩ (.int .i64 t249)).setCell ⟨gb251, 1, none⟩ (.int .i64 t250)).heap[gb251]? = some (.cells #[.int .i64 t249, .int .i64 t250] 53 (0, 0))) := ⟨by (with_reducible repeat (first | refine blk_drewN ?_ _ | refine blk_drew ?_ | refine blk_alloc ?_ _)); refine blk_put (cs := #[.int .i64 t249, .int .i64 0]) ?_ 1 _ rfl; (with_reducible repeat (first | refine blk_drewN ?_ _ | refine blk_drew ?_ | refine blk_alloc ?_ _)); refine blk_put (cs := #[.int .i64 0, .int .i64 0]) ?_ 0 _ rfl; exact bx BK251.out⟩
  have n3_ : Aside0 (Below w.heap.size w ((w129.setCell ⟨gb251, 0, none⟩ (.int .i64 t249)).setCell ⟨gb251, 1, none⟩ (.int .i64 t250))) := ⟨lb⟩
  (try clear BK247)
  (try clear BK248)
  (try clear BK251)
  (try clear HB)
  generalize ((w129.setCell ⟨gb251, 0, none⟩ (.int .i64 t249)).setCell ⟨gb251, 1, none⟩ (.int .i64 t250)) = w133 at n0_ n1_ n2_ n3_ ⊢
  have BK247 := n0_
  have BK248 := n1_
  have BK251 := n2_
  have HB := n3_
  clear n0_ n1_ n2_ n3_
  have n0_ := ak (blk_drew BK247.out)
  have n1_ := ak (blk_drew BK248.out)
  have n2_ := ak (blk_drew BK251.out)
  have n3_ := ak (below_drew1 HB.out)
  clear BK247
  clear BK248
  clear BK251
  clear HB
  have BK247 := n0_
  have BK248 := n1_
  have BK251 := n2_
  have HB := n3_
  clear n0_ n1_ n2_ n3_
  refine start_ (n := 6) (S := fun w' => w'.cell? ⟨gb251, 0, none⟩ = some (.int .i64 t249) ∧ w'.cell? ⟨gb251, 1, none⟩ = some (.int .i64 t250)) (ds := []) #[false, false, false, false, false, false] (by kernel_rfl) rfl rfl ⟨(blk_cell BK251.out 0).trans rfl, (blk_cell BK251.out 1).trans rfl⟩ (fun hHeld => ?_)
  generalize w133.drew = w134 at BK247 BK248 BK251 HB hHeld ⊢
  refine pure_ (i := 0) (N := some 21) (v := ?_) (a' := ?_) #[true, false, false, false, false, false] rfl rfl (by kernel_rfl) (fun _ _ _ h => h) (Or.inl ⟨by rfl, ?_⟩) ?_ ?_; rotate_left; intro w'; go_simp; with_reducible rfl; rotate_left; simp only [Act.put, List.setIfInBounds_toArray, List.set_cons_zero, List.set_cons_succ, i64_w, i32_w]; rfl
  refine pure_ (i := 1) (N := some 22) (v := ?_) (a' := ?_) #[true, true, false, false, false, false] rfl rfl (by kernel_rfl) (fun _ _ _ h => h) (Or.inl ⟨by rfl, ?_⟩) ?_ ?_; rotate_left; intro w'; go_simp; with_reducible rfl; rotate_left; simp only [Act.put, List.setIfInBounds_toArray, List.set_cons_zero, List.set_cons_succ, i64_w, i32_w]; rfl
  refine take_ (i := 2) (N := some 23) (v := ?_) (a' := ?_) #[true, true, true, false, false, false] rfl rfl (by kernel_rfl) (fun _ _ _ h => h) (Or.inl ⟨by rfl, ?_⟩) hHeld ?_ ?_; rotate_left; rintro w' ⟨s0, s1⟩; go_simp; with_reducible rfl; rotate_left; simp only [Act.put, List.setIfInBounds_toArray, List.set_cons_zero, List.set_cons_succ, i64_w, i32_w]; rfl
  refine one_ (i := 3) (N := none) #[true, true, true, true, false, false] rfl rfl (by kernel_rfl) (by decide) (fun K hK => ?_)
  have hs135 : w134.cell? ⟨gb248, 0, none⟩ = some (.int .i64 0) := (blk_cell BK248.out 0).trans rfl
  have hfs135 := blk_frozen BK248.out 0
  have hns135_0 := NB247_248.out
  have hns135_2 := NB251_248.out
  have hms135_0 := NB248_247.out
  have hms135_2 := NB248_251.out
  have hs136 : w134.cell? ⟨gb248, 1, none⟩ = some (.slice none 0 0) := (blk_cell BK248.out 1).trans rfl
  have hfs136 := blk_frozen BK248.out 1
  have hns136_0 := NB247_248.out
  have hns136_2 := NB251_248.out
  have hms136_0 := NB248_247.out
  have hms136_2 := NB248_251.out
  refine skip_ (w1 := ?_) (by rfl) rfl ?_ ?_
  rotate_left
  ·
   go_simp
   rfl
  refine hK.out _ _ ⟨((cell_far (p := ⟨gb248, _, none⟩) NB251_248.out _).trans (((cell_far (p := ⟨gb248, _, none⟩) NB251_248.out _).trans (hHeld.1)))), ((cell_far (p := ⟨gb248, _, none⟩) NB251_248.out _).trans (((cell_far (p := ⟨gb248, _, none⟩) NB251_248.out _).trans (hHeld.2))))⟩ (fun hHeld => ?_)
  clear hK K
  refine pure_ (i := 4) (N := some 5) (v := ?_) (a' := ?_) #[true, true, true, true, true, false] rfl rfl (by kernel_rfl) (fun _ _ _ h => h) (Or.inl ⟨by rfl, ?_⟩) ?_ ?_; rotate_left; intro w'; go_simp; with_reducible rfl; rotate_left; simp only [Act.put, List.setIfInBounds_toArray, List.set_cons_zero, List.set_cons_succ, i64_w, i32_w]; rfl
  refine pure_ (i := 5) (N := some 6) (v := ?_) (a' := ?_) #[true, true, true, true, true, true] rfl rfl (by kernel_rfl) (fun _ _ _ h => h) (Or.inl ⟨by rfl, ?_⟩) ?_ ?_; rotate_left; intro w'; go_simp; with_reducible rfl; rotate_left; simp only [Act.put, List.setIfInBounds_toArray, List.set_cons_zero, List.set_cons_succ, i64_w, i32_w]; rfl
  refine done_ (by kernel_rfl) ?_
  try go_wp2
  refine bodyPost_ret (results_ctt rfl _ _ gb248 28 #[.int .i64 0, .slice none 0 0] (0, 0) _ rfl (by (with_reducible repeat (first | refine blk_drewN ?_ _ | refine blk_drew ?_ | refine blk_alloc ?_ _)); refine blk_put (cs := #[.int .i64 0, .slice none 0 0]) ?_ 1 _ rfl; (with_reducible repeat (first | refine blk_drewN ?_ _ | refine blk_drew ?_ | refine blk_alloc ?_ _)); refine blk_put (cs := #[.int .i64 0, .slice none 0 0]) ?_ 0 _ rfl; exact bx BK248.out) Try.underlying28 rfl (by kernel_rfl)) rfl ?_
  exact ⟨_, by first | rfl | (simp [errW_none, errW_some] <;> rfl) | (simp [*, errW_none, errW_some] <;> rfl), by first | exact Kd.R_nil _ _ _ _ _ | exact Kd.N_nil _ _ _ _ _ | exact Kd.V_nil _ _ _ _ _ | exact Kd.Q_nil _ _ _ _ _ | exact Kd.S_nil _ _ _ _ _, lb⟩

end Go.Proofs.Ytplbkggdnonfbaa.Q
