import Derived.Test.YtkdoihcjhccliaaQ0
namespace Go.Proofs.Ytkdoihcjhccliaa.Q
open Go.RowKit Go.Proofs.YtkdoihcjhccliaaW.PrintWords Go.Proofs.YtkdoihcjhccliaaW.PrintLast Go.Proofs.YtkdoihcjhccliaaW.PrintMore
attribute [local go_sem] max2_int min2_int max_two min_two max_three min_three max_four min_four   -- for this text's walks alone
set_option linter.unusedVariables false
set_option linter.unusedSimpArgs false

/-! ### compassref11_Out: function 18 -/
def compassref11_Out.l0 : Nat → List Int → Int → Int → Int → Int → List (S98) → Option (Int)
  | 0, _, _, _, _, _, _ => none
  | k + 1, x1, x2, x7, x8, x312000, x312001 => if x8 < (x1.length : Int) then (if 0 ≤ x8 then (if x8 < (x312001.length : Int) then (if ((rd_T98 x312001 x8).f0) = x2 then (if ((rd_T98 x312001 x8).f1) = x2 then (compassref11_Out.l0 k x1 x2 (wrap64 ((wrap64 (x7 + (rd x1 x8))) - (rd x1 x8))) (wrap64 (x8 + 1)) x312000 x312001) else (compassref11_Out.l0 k x1 x2 (wrap64 (x7 + (rd x1 x8))) (wrap64 (x8 + 1)) x312000 x312001)) else (if ((rd_T98 x312001 x8).f1) = x2 then (compassref11_Out.l0 k x1 x2 (wrap64 (x7 - (rd x1 x8))) (wrap64 (x8 + 1)) x312000 x312001) else (compassref11_Out.l0 k x1 x2 x7 (wrap64 (x8 + 1)) x312000 x312001))) else (none)) else (none)) else (some x7)
def compassref11_Out.f (k : Nat) (a0_0 : Int) (l0_1 : List (S98)) (l1 : List Int) (a2 : Int) : Option (Int) := compassref11_Out.l0 k l1 a2 0 0 a0_0 l0_1
theorem compassref11_Out.mono_l : ∀ k, (∀ y0 y1 y2 y3 y4 y5, LeO (compassref11_Out.l0 k y0 y1 y2 y3 y4 y5) (compassref11_Out.l0 (k + 1) y0 y1 y2 y3 y4 y5))
  | 0 => fun _ _ _ _ _ _ r h => by simp [compassref11_Out.l0] at h
  | k + 1 => by
    have ih0 := compassref11_Out.mono_l k
    · intro y0 y1 y2 y3 y4 y5
      unfold compassref11_Out.l0
      repeat' first
      | (with_reducible exact ih0 _ _ _ _ _ _)
      | (with_reducible exact LeO.refl _)
      | (with_reducible exact LeO.none _)
      | (with_reducible refine LeO.ite ?_ ?_)
      | (with_reducible refine LeO.bind ?_ (fun _ => ?_))
      | exact ih0 _ _ _ _ _ _
      | exact LeO.none _
      | refine LeO.ite ?_ ?_
      | refine LeO.bind ?_ (fun _ => ?_)
theorem compassref11_Out.mono : ∀ a0 a1 a2 a3 k, LeO (compassref11_Out.f k a0 a1 a2 a3) (compassref11_Out.f (k + 1) a0 a1 a2 a3) := by
  intro a0 a1 a2 a3 k
  have ih0 := compassref11_Out.mono_l k
  unfold compassref11_Out.f
  repeat' first
      | (with_reducible exact ih0 _ _ _ _ _ _)
      | (with_reducible exact LeO.refl _)
      | (with_reducible exact LeO.none _)
      | (with_reducible refine LeO.ite ?_ ?_)
      | (with_reducible refine LeO.bind ?_ (fun _ => ?_))
      | exact ih0 _ _ _ _ _ _
      | exact LeO.none _
      | refine LeO.ite ?_ ?_
      | refine LeO.bind ?_ (fun _ => ?_)
set_option maxHeartbeats 8000000 in
set_option maxRecDepth 100000 in
theorem compassref11_Out.calls (k : Nat) (a0_0 : Int) (A0_1 : Option Addr) (c0_1 : Nat) (l0_1 : List (S98)) (A1 : Option Addr) (c1 : Nat) (l1 : List Int) (a2 : Int) (r : Int) (w : World) (hr0_1 : Kd.C k98 w A0_1 l0_1.length l0_1) (hc0_1 : l0_1.length ≤ c0_1) (hr1 : Kd.C (Kd.int .i64) w A1 l1.length l1) (hc1 : l1.length ≤ c1) (h : compassref11_Out.f k a0_0 l0_1 l1 a2 = some r) :
    Calls Try.prog 18 #[.agg #[.int .i64 a0_0, .slice A0_1 l0_1.length c0_1], .slice A1 l1.length c1, .int .i64 a2] w fun e w' => e = .returned (.int .i64 r) ∧ Below w.heap.size w w' := by
 have hu24 := Try.underlying24; have HR0_1 := ak hr0_1; have HC0_1 := ak hc0_1; clear hr0_1 hc0_1; have HR1 := ak hr1; have HC1 := ak hc1; clear hr1 hc1; have HB := ak (Below.refl w.heap.size w); have H : (compassref11_Out.l0 k l1 a2 0 0 a0_0 l0_1) = some r := h; clear h; have H' := ak H; clear H
 go_enter Try.func18, Try.ntmps18
 go_wp2_with (first | ((with_reducible refine gate_dst (N := 3) rfl ?_); refine box_event ?hg (N := 3) ?hd (cs := #[.int .i64 a0_0, .slice A0_1 l0_1.length c0_1]) (t := 24) ?hr ?_; (case hd => rfl); (case hg => rfl); (case hr => first | (go_simp; done) | (go_simp; rfl)); intro gb311 hg w4 hbox hb; have n_ := a4 (below_step lb hb) hbox (gw w hg) (gw w hg); clear HB; obtain ⟨HB, BK311, GW311, GE311⟩ := n_; clear hb hbox hg))
 go_loopg [7, 8] k (fun kq v7 v8 w' => ∃ (x7_1 : Int) (x8_1 : Int), v7 = .int .i64 x7_1 ∧ v8 = .int .i64 x8_1 ∧ Aside0 (compassref11_Out.l0 kq l1 a2 x7_1 x8_1 a0_0 l0_1 = some r) ∧ Aside0 (kq ≤ k) ∧ Aside0 (w'.heap[gb311]? = some (.cells #[.int .i64 a0_0, (.slice A0_1 l0_1.length c0_1)] 24 (0, 0))) ∧ Aside0 (Below w.heap.size w w'))
 case atStart => exact ⟨(0), (0), (by first | rfl | (simp [*]; done)), (by first | rfl | (simp [*]; done)), H', ⟨Nat.le_refl _⟩, ⟨bx BK311.out⟩, ⟨lb⟩⟩
 case round =>
  clear H'; obtain ⟨x7_1, x8_1, rfl, rfl, HA, HK1, BK311, HB⟩ := hrel
  cases gk with
  | zero => exact absurd HA.out (by simp [compassref11_Out.l0])
  | succ k1 =>
   have H := HA.out; clear HA
   simp only [compassref11_Out.l0] at H
   by_cases c5 : x8_1 < (l1.length : Int)
   ·
    rw [if_pos c5] at H; have c5b0 := decide_eq_true c5; clear c5; replace H := ifd H; obtain ⟨c6b0, H⟩ := H; replace H := ifd H; obtain ⟨c7b0, H⟩ := H
    by_cases c8 : ((rd_T98 l0_1 x8_1).f0) = a2
    ·
     rw [if_pos c8] at H; have c8b0 : (((rd_T98 l0_1 x8_1).f0) == a2) = true := beq_iff_eq.mpr c8; have c8b1 : (((rd_T98 l0_1 x8_1).f0) != a2) = false := bne_eq_false_iff_eq.mpr c8; clear c8
     by_cases c9 : ((rd_T98 l0_1 x8_1).f1) = a2
     ·
      rw [if_pos c9] at H; have c9b0 : (((rd_T98 l0_1 x8_1).f1) == a2) = true := beq_iff_eq.mpr c9; have c9b1 : (((rd_T98 l0_1 x8_1).f1) != a2) = false := bne_eq_false_iff_eq.mpr c9; clear c9; have H' := ak H; clear H; have hcz10_0 := bc0 BK311; have hcz10_1 := bc1 BK311; have hfz10_0 := bf BK311 0; have hfz10_1 := bf BK311 1; have p312 : 0 ≤ (x8_1 : Int) := oda; have q312 : x8_1 < (l0_1.length : Int) := oda; obtain ⟨ad312, e312, hx312_0, hx312_1, hx312_2, hx312_3⟩ := at_T98 HR0_1.out x8_1 p312 q312; cases e312
      (try replace hx312_0 := hbc HB hx312_0)
      (try replace hx312_1 := hbc HB hx312_1)
      (try replace hx312_2 := hbc HB hx312_2)
      (try replace hx312_3 := hbc HB hx312_3)
      replace p312 := eq_true p312; replace q312 := eq_true q312; have p313 : 0 ≤ (x8_1 : Int) := oda; have q313 : x8_1 < (l1.length : Int) := oda; obtain ⟨ad313, e313, hx313_0⟩ := Kd.at_int HR1.out x8_1 p313 q313; cases e313
      (try replace hx313_0 := hbc HB hx313_0)
      replace p313 := eq_true p313; replace q313 := eq_true q313; have p314 : 0 ≤ (x8_1 : Int) := oda; have q314 : x8_1 < (l0_1.length : Int) := oda; obtain ⟨ad314, e314, hx314_0, hx314_1, hx314_2, hx314_3⟩ := at_T98 HR0_1.out x8_1 p314 q314
      obtain rfl : ad312 = ad314 := (by injection e314)
      (try replace hx314_0 := hbc HB hx314_0)
      (try replace hx314_1 := hbc HB hx314_1)
      (try replace hx314_2 := hbc HB hx314_2)
      (try replace hx314_3 := hbc HB hx314_3)
      replace p314 := eq_true p314; replace q314 := eq_true q314; have p315 : 0 ≤ (x8_1 : Int) := oda; have q315 : x8_1 < (l1.length : Int) := oda; obtain ⟨ad315, e315, hx315_0⟩ := Kd.at_int HR1.out x8_1 p315 q315
      obtain rfl : ad313 = ad315 := (by injection e315)
      (try replace hx315_0 := hbc HB hx315_0)
      replace p315 := eq_true p315; replace q315 := eq_true q315
      go_wp2
      go_roundg k1
      case measure => have := HK1.out; omega
      case rel => exact ⟨(wrap64 ((wrap64 (x7_1 + (rd l1 x8_1))) - (rd l1 x8_1))), (wrap64 (x8_1 + 1)), (by first | rfl | (simp [*]; done)), (by first | rfl | (simp [*]; done)), H', ⟨by have := HK1.out; omega⟩, ⟨bx BK311.out⟩, ⟨lb⟩⟩
     ·
      rw [if_neg c9] at H; have c9b0 : (((rd_T98 l0_1 x8_1).f1) == a2) = false := beq_eq_false_iff_ne.mpr c9; have c9b1 : (((rd_T98 l0_1 x8_1).f1) != a2) = true := bne_iff_ne.mpr c9; have H' := ak H; clear H; have hcz11_0 := bc0 BK311; have hcz11_1 := bc1 BK311; have hfz11_0 := bf BK311 0; have hfz11_1 := bf BK311 1; have p312 : 0 ≤ (x8_1 : Int) := oda; have q312 : x8_1 < (l0_1.length : Int) := oda; obtain ⟨ad312, e312, hx312_0, hx312_1, hx312_2, hx312_3⟩ := at_T98 HR0_1.out x8_1 p312 q312; cases e312
      (try replace hx312_0 := hbc HB hx312_0)
      (try replace hx312_1 := hbc HB hx312_1)
      (try replace hx312_2 := hbc HB hx312_2)
      (try replace hx312_3 := hbc HB hx312_3)
      replace p312 := eq_true p312; replace q312 := eq_true q312; have p313 : 0 ≤ (x8_1 : Int) := oda; have q313 : x8_1 < (l1.length : Int) := oda; obtain ⟨ad313, e313, hx313_0⟩ := Kd.at_int HR1.out x8_1 p313 q313; cases e313
      (try replace hx313_0 := hbc HB hx313_0)
      replace p313 := eq_true p313; replace q313 := eq_true q313; have p314 : 0 ≤ (x8_1 : Int) := oda; have q314 : x8_1 < (l0_1.length : Int) := oda; obtain ⟨ad314, e314, hx314_0, hx314_1, hx314_2, hx314_3⟩ := at_T98 HR0_1.out x8_1 p314 q314
      obtain rfl : ad312 = ad314 := (by injection e314)
      (try replace hx314_0 := hbc HB hx314_0)
      (try replace hx314_1 := hbc HB hx314_1)
      (try replace hx314_2 := hbc HB hx314_2)
      (try replace hx314_3 := hbc HB hx314_3)
      replace p314 := eq_true p314; replace q314 := eq_true q314
      go_wp2
      go_roundg k1
      case measure => have := HK1.out; omega
      case rel => exact ⟨(wrap64 (x7_1 + (rd l1 x8_1))), (wrap64 (x8_1 + 1)), (by first | rfl | (simp [*]; done)), (by first | rfl | (simp [*]; done)), H', ⟨by have := HK1.out; omega⟩, ⟨bx BK311.out⟩, ⟨lb⟩⟩
    ·
     rw [if_neg c8] at H; have c8b0 : (((rd_T98 l0_1 x8_1).f0) == a2) = false := beq_eq_false_iff_ne.mpr c8; have c8b1 : (((rd_T98 l0_1 x8_1).f0) != a2) = true := bne_iff_ne.mpr c8
     by_cases c12 : ((rd_T98 l0_1 x8_1).f1) = a2
     ·
      rw [if_pos c12] at H; have c12b0 : (((rd_T98 l0_1 x8_1).f1) == a2) = true := beq_iff_eq.mpr c12; have c12b1 : (((rd_T98 l0_1 x8_1).f1) != a2) = false := bne_eq_false_iff_eq.mpr c12; clear c12; have H' := ak H; clear H; have hcz13_0 := bc0 BK311; have hcz13_1 := bc1 BK311; have hfz13_0 := bf BK311 0; have hfz13_1 := bf BK311 1; have p312 : 0 ≤ (x8_1 : Int) := oda; have q312 : x8_1 < (l0_1.length : Int) := oda; obtain ⟨ad312, e312, hx312_0, hx312_1, hx312_2, hx312_3⟩ := at_T98 HR0_1.out x8_1 p312 q312; cases e312
      (try replace hx312_0 := hbc HB hx312_0)
      (try replace hx312_1 := hbc HB hx312_1)
      (try replace hx312_2 := hbc HB hx312_2)
      (try replace hx312_3 := hbc HB hx312_3)
      replace p312 := eq_true p312; replace q312 := eq_true q312; have p316 : 0 ≤ (x8_1 : Int) := oda; have q316 : x8_1 < (l0_1.length : Int) := oda; obtain ⟨ad316, e316, hx316_0, hx316_1, hx316_2, hx316_3⟩ := at_T98 HR0_1.out x8_1 p316 q316
      obtain rfl : ad312 = ad316 := (by injection e316)
      (try replace hx316_0 := hbc HB hx316_0)
      (try replace hx316_1 := hbc HB hx316_1)
      (try replace hx316_2 := hbc HB hx316_2)
      (try replace hx316_3 := hbc HB hx316_3)
      replace p316 := eq_true p316; replace q316 := eq_true q316; have p317 : 0 ≤ (x8_1 : Int) := oda; have q317 : x8_1 < (l1.length : Int) := oda; obtain ⟨ad317, e317, hx317_0⟩ := Kd.at_int HR1.out x8_1 p317 q317; cases e317
      (try replace hx317_0 := hbc HB hx317_0)
      replace p317 := eq_true p317; replace q317 := eq_true q317
      go_wp2
      go_roundg k1
      case measure => have := HK1.out; omega
      case rel => exact ⟨(wrap64 (x7_1 - (rd l1 x8_1))), (wrap64 (x8_1 + 1)), (by first | rfl | (simp [*]; done)), (by first | rfl | (simp [*]; done)), H', ⟨by have := HK1.out; omega⟩, ⟨bx BK311.out⟩, ⟨lb⟩⟩
     ·
      rw [if_neg c12] at H; have c12b0 : (((rd_T98 l0_1 x8_1).f1) == a2) = false := beq_eq_false_iff_ne.mpr c12; have c12b1 : (((rd_T98 l0_1 x8_1).f1) != a2) = true := bne_iff_ne.mpr c12; have H' := ak H; clear H; have hcz14_0 := bc0 BK311; have hcz14_1 := bc1 BK311; have hfz14_0 := bf BK311 0; have hfz14_1 := bf BK311 1; have p312 : 0 ≤ (x8_1 : Int) := oda; have q312 : x8_1 < (l0_1.length : Int) := oda; obtain ⟨ad312, e312, hx312_0, hx312_1, hx312_2, hx312_3⟩ := at_T98 HR0_1.out x8_1 p312 q312; cases e312
      (try replace hx312_0 := hbc HB hx312_0)
      (try replace hx312_1 := hbc HB hx312_1)
      (try replace hx312_2 := hbc HB hx312_2)
      (try replace hx312_3 := hbc HB hx312_3)
      replace p312 := eq_true p312; replace q312 := eq_true q312; have p316 : 0 ≤ (x8_1 : Int) := oda; have q316 : x8_1 < (l0_1.length : Int) := oda; obtain ⟨ad316, e316, hx316_0, hx316_1, hx316_2, hx316_3⟩ := at_T98 HR0_1.out x8_1 p316 q316
      obtain rfl : ad312 = ad316 := (by injection e316)
      (try replace hx316_0 := hbc HB hx316_0)
      (try replace hx316_1 := hbc HB hx316_1)
      (try replace hx316_2 := hbc HB hx316_2)
      (try replace hx316_3 := hbc HB hx316_3)
      replace p316 := eq_true p316; replace q316 := eq_true q316
      go_wp2
      go_roundg k1
      case measure => have := HK1.out; omega
      case rel => exact ⟨(x7_1), (wrap64 (x8_1 + 1)), (by first | rfl | (simp [*]; done)), (by first | rfl | (simp [*]; done)), H', ⟨by have := HK1.out; omega⟩, ⟨bx BK311.out⟩, ⟨lb⟩⟩
   ·
    rw [if_neg c5] at H; have c5b0 : decide (x8_1 < (l1.length : Int)) = false := decide_eq_false c5; clear c5; obtain rfl := Option.some.inj H
    go_wp2
    go_ret
    exact ⟨by first | rfl | (simp [errW_none, errW_some] <;> rfl) | (simp [*, errW_none, errW_some] <;> rfl), lb⟩

end Go.Proofs.Ytkdoihcjhccliaa.Q
