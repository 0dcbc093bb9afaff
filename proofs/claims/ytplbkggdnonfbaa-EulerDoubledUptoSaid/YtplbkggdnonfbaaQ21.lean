import Derived.Test.YtplbkggdnonfbaaQ0
import Derived.Test.YtplbkggdnonfbaaQ17
namespace Go.Proofs.Ytplbkggdnonfbaa.Q
open Go.RowKit Go.Proofs.YtplbkggdnonfbaaW.PrintWords Go.Proofs.YtplbkggdnonfbaaW.PrintLast Go.Proofs.YtplbkggdnonfbaaW.PrintMore
attribute [local go_sem] max2_int min2_int max_two min_two max_three min_three max_four min_four   -- for this text's walks alone
set_option linter.unusedVariables false
set_option linter.unusedSimpArgs false

/-! ### compassref04_Wrong: function 26 -/
def compassref04_Wrong.f (k : Nat) (a0_0 : Int) (l0_1 : List (S45)) (a1 : Int) : Option (Int) := (compassref03_Check.f k a0_0 l0_1).bind fun bt388 => (if bt388.1 = 0 then (if a1 < 0 then (some 30) else (if a1 ≥ a0_0 then (some 30) else (some bt388.1))) else (some bt388.1))
theorem compassref04_Wrong.mono : ∀ a0 a1 a2 k, LeO (compassref04_Wrong.f k a0 a1 a2) (compassref04_Wrong.f (k + 1) a0 a1 a2) := by
  intro a0 a1 a2 k
  unfold compassref04_Wrong.f
  repeat' first
      | (with_reducible exact compassref03_Check.mono _ _ _)
      | (with_reducible exact LeO.refl _)
      | (with_reducible exact LeO.none _)
      | (with_reducible refine LeO.ite ?_ ?_)
      | (with_reducible refine LeO.bind ?_ (fun _ => ?_))
      | exact compassref03_Check.mono _ _ _
      | exact LeO.none _
      | refine LeO.ite ?_ ?_
      | refine LeO.bind ?_ (fun _ => ?_)
set_option maxHeartbeats 8000000 in
set_option maxRecDepth 100000 in
theorem compassref04_Wrong.calls (k : Nat) (a0_0 : Int) (A0_1 : Option Addr) (c0_1 : Nat) (l0_1 : List (S45)) (a1 : Int) (r : Int) (w : World) (hr0_1 : Kd.C k45 w A0_1 l0_1.length l0_1) (hc0_1 : l0_1.length ≤ c0_1) (h : compassref04_Wrong.f k a0_0 l0_1 a1 = some r) :
    Calls Try.prog 26 #[.agg #[.int .i64 a0_0, .slice A0_1 l0_1.length c0_1], .int .i64 a1] w fun e w' => e = .returned (.int .i64 r) ∧ Below w.heap.size w w' := by
 have hu24 := Try.underlying24; have HR0_1 := ak hr0_1; have HC0_1 := ak hc0_1; clear hr0_1 hc0_1; have HB := ak (Below.refl w.heap.size w); have H : ((compassref03_Check.f k a0_0 l0_1).bind fun bt388 => (if bt388.1 = 0 then (if a1 < 0 then (some 30) else (if a1 ≥ a0_0 then (some 30) else (some bt388.1))) else (some bt388.1))) = some r := h; clear h; replace H := Option.bind_eq_some_iff.mp H; obtain ⟨⟨t388, t389⟩, A30, H⟩ := H; replace H : (if t388 = 0 then (if a1 < 0 then (some 30) else (if a1 ≥ a0_0 then (some 30) else (some t388))) else (some t388)) = some r := H; have A3 := ak A30; clear A30
 by_cases c4 : t388 = 0
 ·
  rw [if_pos c4] at H; have c4b0 : (t388 == 0) = true := beq_iff_eq.mpr c4; have c4b1 : (t388 != 0) = false := bne_eq_false_iff_eq.mpr c4; clear c4
  by_cases c5 : a1 < 0
  ·
   rw [if_pos c5] at H; have c5b0 := decide_eq_true c5; clear c5; obtain rfl := Option.some.inj H
   go_enter Try.func26, Try.ntmps26
   go_wp2_with (first | ((with_reducible refine gate_dst (N := 2) rfl ?_); refine box_event ?hg (N := 2) ?hd (cs := #[.int .i64 a0_0, .slice A0_1 l0_1.length c0_1]) (t := 24) ?hr ?_; (case hd => rfl); (case hg => rfl); (case hr => first | (go_simp; done) | (go_simp; rfl)); intro gb387 hg w6 hbox hb; have n_ := a4 (below_step lb hb) hbox (by rw [hg]; exact (below_size lb) : w.heap.size ≤ gb387) (by rw [hg]; exact (below_size lb) : w.heap.size ≤ gb387); clear HB; obtain ⟨HB, BK387, GW387, GE387⟩ := n_; clear hb hbox hg; have hcz7_0 := bc0 BK387; have hcz7_1 := bc1 BK387; have hfz7_0 := bf BK387 0; have hfz7_1 := bf BK387 1) | ((with_reducible refine gate_callee (f := 17) rfl ?_); refine goesZ (some 9) rfl rfl Try.func17 (by kernel_rfl) rfl #[.agg #[.int .i64 a0_0, .slice A0_1 l0_1.length c0_1]] rfl ?_; (with_reducible refine (compassref03_Check.calls k a0_0 _ _ l0_1 t388 t389 _ ?side1 ?side2 A3.out).mono ?_); (case side1 => exact Kd.C_below HR0_1.out lb); (case side2 => exact HC0_1.out); rintro e w8 ⟨rfl, hb⟩; refine ⟨_, rfl, ?_⟩; have n_ := a2 (blk_below (bx BK387.out) hb) (below_step lb hb); clear BK387 HB; obtain ⟨BK387, HB⟩ := n_; (try clear hb); (try clear hb2); (try clear hk); (try clear hi)))
   go_ret
   exact ⟨by first | rfl | (simp [errW_none, errW_some] <;> rfl) | (simp [*, errW_none, errW_some] <;> rfl), lb⟩
  ·
   rw [if_neg c5] at H; have c5b0 : decide (a1 < 0) = false := decide_eq_false c5; clear c5
   by_cases c9 : a1 ≥ a0_0
   ·
    rw [if_pos c9] at H; have c9b0 := decide_eq_true c9; clear c9; obtain rfl := Option.some.inj H
    go_enter Try.func26, Try.ntmps26
    go_wp2_with (first | ((with_reducible refine gate_dst (N := 2) rfl ?_); refine box_event ?hg (N := 2) ?hd (cs := #[.int .i64 a0_0, .slice A0_1 l0_1.length c0_1]) (t := 24) ?hr ?_; (case hd => rfl); (case hg => rfl); (case hr => first | (go_simp; done) | (go_simp; rfl)); intro gb387 hg w10 hbox hb; have n_ := a4 (below_step lb hb) hbox (by rw [hg]; exact (below_size lb) : w.heap.size ≤ gb387) (by rw [hg]; exact (below_size lb) : w.heap.size ≤ gb387); clear HB; obtain ⟨HB, BK387, GW387, GE387⟩ := n_; clear hb hbox hg; have hcz11_0 := bc0 BK387; have hcz11_1 := bc1 BK387; have hfz11_0 := bf BK387 0; have hfz11_1 := bf BK387 1) | ((with_reducible refine gate_callee (f := 17) rfl ?_); refine goesZ (some 9) rfl rfl Try.func17 (by kernel_rfl) rfl #[.agg #[.int .i64 a0_0, .slice A0_1 l0_1.length c0_1]] rfl ?_; (with_reducible refine (compassref03_Check.calls k a0_0 _ _ l0_1 t388 t389 _ ?side1 ?side2 A3.out).mono ?_); (case side1 => exact Kd.C_below HR0_1.out lb); (case side2 => exact HC0_1.out); rintro e w12 ⟨rfl, hb⟩; refine ⟨_, rfl, ?_⟩; have n_ := a2 (blk_below (bx BK387.out) hb) (below_step lb hb); clear BK387 HB; obtain ⟨BK387, HB⟩ := n_; (try clear hb); (try clear hb2); (try clear hk); (try clear hi); have hcz13_0 := bc0 BK387; have hcz13_1 := bc1 BK387; have hfz13_0 := bf BK387 0; have hfz13_1 := bf BK387 1))
    go_ret
    exact ⟨by first | rfl | (simp [errW_none, errW_some] <;> rfl) | (simp [*, errW_none, errW_some] <;> rfl), lb⟩
   ·
    rw [if_neg c9] at H; have c9b0 : decide (a0_0 ≤ a1) = false := decide_eq_false c9; clear c9; obtain rfl := Option.some.inj H
    go_enter Try.func26, Try.ntmps26
    go_wp2_with (first | ((with_reducible refine gate_dst (N := 2) rfl ?_); refine box_event ?hg (N := 2) ?hd (cs := #[.int .i64 a0_0, .slice A0_1 l0_1.length c0_1]) (t := 24) ?hr ?_; (case hd => rfl); (case hg => rfl); (case hr => first | (go_simp; done) | (go_simp; rfl)); intro gb387 hg w14 hbox hb; have n_ := a4 (below_step lb hb) hbox (by rw [hg]; exact (below_size lb) : w.heap.size ≤ gb387) (by rw [hg]; exact (below_size lb) : w.heap.size ≤ gb387); clear HB; obtain ⟨HB, BK387, GW387, GE387⟩ := n_; clear hb hbox hg; have hcz15_0 := bc0 BK387; have hcz15_1 := bc1 BK387; have hfz15_0 := bf BK387 0; have hfz15_1 := bf BK387 1) | ((with_reducible refine gate_callee (f := 17) rfl ?_); refine goesZ (some 9) rfl rfl Try.func17 (by kernel_rfl) rfl #[.agg #[.int .i64 a0_0, .slice A0_1 l0_1.length c0_1]] rfl ?_; (with_reducible refine (compassref03_Check.calls k a0_0 _ _ l0_1 t388 t389 _ ?side1 ?side2 A3.out).mono ?_); (case side1 => exact Kd.C_below HR0_1.out lb); (case side2 => exact HC0_1.out); rintro e w16 ⟨rfl, hb⟩; refine ⟨_, rfl, ?_⟩; have n_ := a2 (blk_below (bx BK387.out) hb) (below_step lb hb); clear BK387 HB; obtain ⟨BK387, HB⟩ := n_; (try clear hb); (try clear hb2); (try clear hk); (try clear hi); have hcz17_0 := bc0 BK387; have hcz17_1 := bc1 BK387; have hfz17_0 := bf BK387 0; have hfz17_1 := bf BK387 1))
    go_ret
    exact ⟨by first | rfl | (simp [errW_none, errW_some] <;> rfl) | (simp [*, errW_none, errW_some] <;> rfl), lb⟩
 ·
  rw [if_neg c4] at H; have c4b0 : (t388 == 0) = false := beq_eq_false_iff_ne.mpr c4; have c4b1 : (t388 != 0) = true := bne_iff_ne.mpr c4; obtain rfl := Option.some.inj H
  go_enter Try.func26, Try.ntmps26
  go_wp2_with (first | ((with_reducible refine gate_dst (N := 2) rfl ?_); refine box_event ?hg (N := 2) ?hd (cs := #[.int .i64 a0_0, .slice A0_1 l0_1.length c0_1]) (t := 24) ?hr ?_; (case hd => rfl); (case hg => rfl); (case hr => first | (go_simp; done) | (go_simp; rfl)); intro gb387 hg w18 hbox hb; have n_ := a4 (below_step lb hb) hbox (by rw [hg]; exact (below_size lb) : w.heap.size ≤ gb387) (by rw [hg]; exact (below_size lb) : w.heap.size ≤ gb387); clear HB; obtain ⟨HB, BK387, GW387, GE387⟩ := n_; clear hb hbox hg; have hcz19_0 := bc0 BK387; have hcz19_1 := bc1 BK387; have hfz19_0 := bf BK387 0; have hfz19_1 := bf BK387 1) | ((with_reducible refine gate_callee (f := 17) rfl ?_); refine goesZ (some 9) rfl rfl Try.func17 (by kernel_rfl) rfl #[.agg #[.int .i64 a0_0, .slice A0_1 l0_1.length c0_1]] rfl ?_; (with_reducible refine (compassref03_Check.calls k a0_0 _ _ l0_1 t388 t389 _ ?side1 ?side2 A3.out).mono ?_); (case side1 => exact Kd.C_below HR0_1.out lb); (case side2 => exact HC0_1.out); rintro e w20 ⟨rfl, hb⟩; refine ⟨_, rfl, ?_⟩; have n_ := a2 (blk_below (bx BK387.out) hb) (below_step lb hb); clear BK387 HB; obtain ⟨BK387, HB⟩ := n_; (try clear hb); (try clear hb2); (try clear hk); (try clear hi)))
  go_ret
  exact ⟨by first | rfl | (simp [errW_none, errW_some] <;> rfl) | (simp [*, errW_none, errW_some] <;> rfl), lb⟩

end Go.Proofs.Ytplbkggdnonfbaa.Q
