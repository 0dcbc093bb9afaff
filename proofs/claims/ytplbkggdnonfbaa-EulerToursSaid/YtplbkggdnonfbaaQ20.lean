import Derived.Test.YtplbkggdnonfbaaQ0
import Derived.Test.YtplbkggdnonfbaaQ15
import Derived.Test.YtplbkggdnonfbaaQ17
import Derived.Test.YtplbkggdnonfbaaQ18
import Derived.Test.YtplbkggdnonfbaaQ19
namespace Go.Proofs.Ytplbkggdnonfbaa.Q
open Go.RowKit Go.Proofs.YtplbkggdnonfbaaW.PrintWords Go.Proofs.YtplbkggdnonfbaaW.PrintLast Go.Proofs.YtplbkggdnonfbaaW.PrintMore
attribute [local go_sem] max2_int min2_int max_two min_two max_three min_three max_four min_four   -- for this text's walks alone
set_option linter.unusedVariables false
set_option linter.unusedSimpArgs false

/-! ### compassref09_Tour: function 10 -/
mutual
def compassref09_Tour.l0 : Nat → Bool → Int → Int → List (S45) → Option (Int × Int × Int)
  | 0, _, _, _, _ => none
  | k + 1, x1, x9, x374000, x374001 => if x9 < x374000 then ((compassref09_Degrees.f k x374000 x374001 x9).bind fun bt376 => (if x1 = true then (if bt376.1 = bt376.2 then (compassref09_Tour.l0 k x1 (wrap64 (x9 + 1)) x374000 x374001) else (some (0, x9, 90))) else (if (Int.tmod (wrap64 (bt376.1 + bt376.2)) 2) = 1 then (some (0, x9, 90)) else (compassref09_Tour.l0 k x1 (wrap64 (x9 + 1)) x374000 x374001)))) else ((compassref09_First.f k x374000 x374001).bind fun t378 => ((compassref04_Parts.f k x374000 x374001).bind fun bt379 => (compassref09_Tour.l1 k t378 bt379.1 0 x374000 x374001)))
def compassref09_Tour.l1 : Nat → Int → List Int → Int → Int → List (S45) → Option (Int × Int × Int)
  | 0, _, _, _, _, _ => none
  | k + 1, x12, x13, x15, x374000, x374001 => if x15 < x374000 then ((compassref09_Degrees.f k x374000 x374001 x15).bind fun bt383 => (if (wrap64 (bt383.1 + bt383.2)) > 0 then (if 0 ≤ x15 then (if x15 < (x13.length : Int) then (if 0 ≤ x12 then (if x12 < (x13.length : Int) then (if (rd x13 x15) = (rd x13 x12) then (compassref09_Tour.l1 k x12 x13 (wrap64 (x15 + 1)) x374000 x374001) else (some (0, x15, 91))) else (none)) else (none)) else (none)) else (none)) else (compassref09_Tour.l1 k x12 x13 (wrap64 (x15 + 1)) x374000 x374001))) else (some (x12, 0, 0))
end
def compassref09_Tour.f (k : Nat) (a0_0 : Int) (l0_1 : List (S45)) (a1 : Bool) : Option (Int × Int × Int) := (compassref03_Check.f k a0_0 l0_1).bind fun bt374 => (if bt374.1 = 0 then (compassref09_Tour.l0 k a1 0 a0_0 l0_1) else (some (0, 0, bt374.1)))
theorem compassref09_Tour.mono_l : ∀ k, (∀ y0 y1 y2 y3, LeO (compassref09_Tour.l0 k y0 y1 y2 y3) (compassref09_Tour.l0 (k + 1) y0 y1 y2 y3)) ∧ (∀ y0 y1 y2 y3 y4, LeO (compassref09_Tour.l1 k y0 y1 y2 y3 y4) (compassref09_Tour.l1 (k + 1) y0 y1 y2 y3 y4))
  | 0 => ⟨fun _ _ _ _ r h => by simp [compassref09_Tour.l0] at h, fun _ _ _ _ _ r h => by simp [compassref09_Tour.l1] at h⟩
  | k + 1 => by
    obtain ⟨ih0, ih1⟩ := compassref09_Tour.mono_l k
    refine ⟨?_, ?_⟩
    · intro y0 y1 y2 y3
      unfold compassref09_Tour.l0
      repeat' first
      | (with_reducible exact ih0 _ _ _ _)
      | (with_reducible exact ih1 _ _ _ _ _)
      | (with_reducible exact compassref03_Check.mono _ _ _)
      | (with_reducible exact compassref04_Parts.mono _ _ _)
      | (with_reducible exact compassref09_Degrees.mono _ _ _ _)
      | (with_reducible exact compassref09_First.mono _ _ _)
      | (with_reducible exact LeO.refl _)
      | (with_reducible exact LeO.none _)
      | (with_reducible refine LeO.ite ?_ ?_)
      | (with_reducible refine LeO.bind ?_ (fun _ => ?_))
      | exact ih0 _ _ _ _
      | exact ih1 _ _ _ _ _
      | exact compassref03_Check.mono _ _ _
      | exact compassref04_Parts.mono _ _ _
      | exact compassref09_Degrees.mono _ _ _ _
      | exact compassref09_First.mono _ _ _
      | exact LeO.none _
      | refine LeO.ite ?_ ?_
      | refine LeO.bind ?_ (fun _ => ?_)
    · intro y0 y1 y2 y3 y4
      unfold compassref09_Tour.l1
      repeat' first
      | (with_reducible exact ih0 _ _ _ _)
      | (with_reducible exact ih1 _ _ _ _ _)
      | (with_reducible exact compassref03_Check.mono _ _ _)
      | (with_reducible exact compassref04_Parts.mono _ _ _)
      | (with_reducible exact compassref09_Degrees.mono _ _ _ _)
      | (with_reducible exact compassref09_First.mono _ _ _)
      | (with_reducible exact LeO.refl _)
      | (with_reducible exact LeO.none _)
      | (with_reducible refine LeO.ite ?_ ?_)
      | (with_reducible refine LeO.bind ?_ (fun _ => ?_))
      | exact ih0 _ _ _ _
      | exact ih1 _ _ _ _ _
      | exact compassref03_Check.mono _ _ _
      | exact compassref04_Parts.mono _ _ _
      | exact compassref09_Degrees.mono _ _ _ _
      | exact compassref09_First.mono _ _ _
      | exact LeO.none _
      | refine LeO.ite ?_ ?_
      | refine LeO.bind ?_ (fun _ => ?_)
theorem compassref09_Tour.mono : ∀ a0 a1 a2 k, LeO (compassref09_Tour.f k a0 a1 a2) (compassref09_Tour.f (k + 1) a0 a1 a2) := by
  intro a0 a1 a2 k
  obtain ⟨ih0, ih1⟩ := compassref09_Tour.mono_l k
  unfold compassref09_Tour.f
  repeat' first
      | (with_reducible exact ih0 _ _ _ _)
      | (with_reducible exact ih1 _ _ _ _ _)
      | (with_reducible exact compassref03_Check.mono _ _ _)
      | (with_reducible exact compassref04_Parts.mono _ _ _)
      | (with_reducible exact compassref09_Degrees.mono _ _ _ _)
      | (with_reducible exact compassref09_First.mono _ _ _)
      | (with_reducible exact LeO.refl _)
      | (with_reducible exact LeO.none _)
      | (with_reducible refine LeO.ite ?_ ?_)
      | (with_reducible refine LeO.bind ?_ (fun _ => ?_))
      | exact ih0 _ _ _ _
      | exact ih1 _ _ _ _ _
      | exact compassref03_Check.mono _ _ _
      | exact compassref04_Parts.mono _ _ _
      | exact compassref09_Degrees.mono _ _ _ _
      | exact compassref09_First.mono _ _ _
      | exact LeO.none _
      | refine LeO.ite ?_ ?_
      | refine LeO.bind ?_ (fun _ => ?_)
set_option maxHeartbeats 8000000 in
set_option maxRecDepth 100000 in
theorem compassref09_Tour.calls (k : Nat) (a0_0 : Int) (A0_1 : Option Addr) (c0_1 : Nat) (l0_1 : List (S45)) (a1 : Bool) (r1 : Int) (r2 : Int) (r3 : Int) (w : World) (hr0_1 : Kd.C k45 w A0_1 l0_1.length l0_1) (hc0_1 : l0_1.length ≤ c0_1) (h : compassref09_Tour.f k a0_0 l0_1 a1 = some (r1, r2, r3)) :
    Calls Try.prog 10 #[.agg #[.int .i64 a0_0, .slice A0_1 l0_1.length c0_1], .bool a1] w fun e w' => e = .returned (.tuple #[.int .i64 r1, .int .i64 r2, .int .i64 r3]) ∧ Below w.heap.size w w' := by
 have hu24 := Try.underlying24; have HR0_1 := ak hr0_1; have HC0_1 := ak hc0_1; clear hr0_1 hc0_1; have HB := ak (Below.refl w.heap.size w); have H : ((compassref03_Check.f k a0_0 l0_1).bind fun bt374 => (if bt374.1 = 0 then (compassref09_Tour.l0 k a1 0 a0_0 l0_1) else (some (0, 0, bt374.1)))) = some (r1, r2, r3) := h; clear h; replace H := Option.bind_eq_some_iff.mp H; obtain ⟨⟨t374, t375⟩, A30, H⟩ := H; replace H : (if t374 = 0 then (compassref09_Tour.l0 k a1 0 a0_0 l0_1) else (some (0, 0, t374))) = some (r1, r2, r3) := H; have A3 := ak A30; clear A30
 by_cases c4 : t374 = 0
 ·
  rw [if_pos c4] at H; have c4b0 : (t374 == 0) = true := beq_iff_eq.mpr c4; have c4b1 : (t374 != 0) = false := bne_eq_false_iff_eq.mpr c4; clear c4; have H' := ak H; clear H
  go_enter Try.func10, Try.ntmps10
  go_wp2_with (first | ((with_reducible refine gate_dst (N := 2) rfl ?_); refine box_event ?hg (N := 2) ?hd (cs := #[.int .i64 a0_0, .slice A0_1 l0_1.length c0_1]) (t := 24) ?hr ?_; (case hd => rfl); (case hg => rfl); (case hr => first | (go_simp; done) | (go_simp; rfl)); intro gb373 hg w5 hbox hb; have n_ := a4 (below_step lb hb) hbox (gw w hg) (gw w hg); clear HB; obtain ⟨HB, BK373, GW373, GE373⟩ := n_; clear hb hbox hg; have hcz6_0 := bc0 BK373; have hcz6_1 := bc1 BK373; have hfz6_0 := bf BK373 0; have hfz6_1 := bf BK373 1) | (go_at_call 17; (with_reducible refine (compassref03_Check.calls k a0_0 _ _ l0_1 t374 t375 _ ?side1 ?side2 A3.out).mono ?_); (case side1 => exact Kd.C_below HR0_1.out lb); (case side2 => exact HC0_1.out); rintro e w7 ⟨rfl, hb⟩; have n_ := a2 (blk_below (bx BK373.out) hb) (below_step lb hb); clear BK373 HB; obtain ⟨BK373, HB⟩ := n_; (try clear hb); (try clear hb2); (try clear hk); (try clear hi)))
  go_loopg [9] k (fun kq v9 w' => ∃ (x9_1 : Int), v9 = .int .i64 x9_1 ∧ Aside0 (compassref09_Tour.l0 kq a1 x9_1 a0_0 l0_1 = some (r1, r2, r3)) ∧ Aside0 (kq ≤ k) ∧ Aside0 (w'.heap[gb373]? = some (.cells #[.int .i64 a0_0, (.slice A0_1 l0_1.length c0_1)] 24 (0, 0))) ∧ Aside0 (Below w.heap.size w w'))
  case atStart => exact ⟨(0), (by first | rfl | (simp [*]; done)), H', ⟨Nat.le_refl _⟩, ⟨bx BK373.out⟩, ⟨lb⟩⟩
  case round =>
   clear H'; obtain ⟨x9_1, rfl, HA, HK1, BK373, HB⟩ := hrel
   cases gk with
   | zero => exact absurd HA.out (by simp [compassref09_Tour.l0])
   | succ k1 =>
    have H := HA.out; clear HA
    simp only [compassref09_Tour.l0] at H
    by_cases c8 : x9_1 < a0_0
    ·
     rw [if_pos c8] at H; have c8b0 := decide_eq_true c8; clear c8; replace H := Option.bind_eq_some_iff.mp H; obtain ⟨⟨t376, t377⟩, A90, H⟩ := H; replace H : (if a1 = true then (if t376 = t377 then (compassref09_Tour.l0 k1 a1 (wrap64 (x9_1 + 1)) a0_0 l0_1) else (some (0, x9_1, 90))) else (if (Int.tmod (wrap64 (t376 + t377)) 2) = 1 then (some (0, x9_1, 90)) else (compassref09_Tour.l0 k1 a1 (wrap64 (x9_1 + 1)) a0_0 l0_1))) = some (r1, r2, r3) := H; have A9 := ak A90; clear A90
     by_cases c10 : a1 = true
     ·
      subst c10
      have H1 : (if t376 = t377 then (compassref09_Tour.l0 k1 true (wrap64 (x9_1 + 1)) a0_0 l0_1) else (some (0, x9_1, 90))) = some (r1, r2, r3) := by rw [if_pos rfl] at H; exact H
      clear H; have H := H1; clear H1
      by_cases c11 : t376 = t377
      ·
       rw [if_pos c11] at H; have c11b0 : (t376 == t377) = true := beq_iff_eq.mpr c11; have c11b1 : (t376 != t377) = false := bne_eq_false_iff_eq.mpr c11; clear c11; have H' := ak H; clear H; have hcz12_0 := bc0 BK373; have hcz12_1 := bc1 BK373; have hfz12_0 := bf BK373 0; have hfz12_1 := bf BK373 1
       go_wp2_with (first | (go_at_call 16; (with_reducible refine (compassref09_Degrees.calls k1 a0_0 _ _ l0_1 x9_1 t376 t377 _ ?side1 ?side2 A9.out).mono ?_); (case side1 => exact Kd.C_below HR0_1.out lb); (case side2 => exact HC0_1.out); rintro e w13 ⟨rfl, hb⟩; have n_ := a2 (blk_below (bx BK373.out) hb) (below_step lb hb); clear BK373 HB; obtain ⟨BK373, HB⟩ := n_; (try clear hb); (try clear hb2); (try clear hk); (try clear hi)))
       go_roundg k1
       case measure => have := HK1.out; omega
       case rel => exact ⟨(wrap64 (x9_1 + 1)), (by first | rfl | (simp [*]; done)), H', ⟨by have := HK1.out; omega⟩, ⟨bx BK373.out⟩, ⟨lb⟩⟩
      ·
       rw [if_neg c11] at H; have c11b0 : (t376 == t377) = false := beq_eq_false_iff_ne.mpr c11; have c11b1 : (t376 != t377) = true := bne_iff_ne.mpr c11
       simp only [Option.some.injEq, Prod.mk.injEq] at H
       obtain ⟨rfl, rfl, rfl⟩ := H; have hcz14_0 := bc0 BK373; have hcz14_1 := bc1 BK373; have hfz14_0 := bf BK373 0; have hfz14_1 := bf BK373 1
       go_wp2_with (first | (go_at_call 16; (with_reducible refine (compassref09_Degrees.calls k1 a0_0 _ _ l0_1 x9_1 t376 t377 _ ?side1 ?side2 A9.out).mono ?_); (case side1 => exact Kd.C_below HR0_1.out lb); (case side2 => exact HC0_1.out); rintro e w15 ⟨rfl, hb⟩; have n_ := a2 (blk_below (bx BK373.out) hb) (below_step lb hb); clear BK373 HB; obtain ⟨BK373, HB⟩ := n_; (try clear hb); (try clear hb2); (try clear hk); (try clear hi)))
       go_ret3
       exact ⟨by first | rfl | (simp [errW_none, errW_some] <;> rfl) | (simp [*, errW_none, errW_some] <;> rfl), lb⟩
     ·
      replace c10 := Bool.eq_false_iff.mpr c10; subst c10
      have H1 : (if (Int.tmod (wrap64 (t376 + t377)) 2) = 1 then (some (0, x9_1, 90)) else (compassref09_Tour.l0 k1 false (wrap64 (x9_1 + 1)) a0_0 l0_1)) = some (r1, r2, r3) := by rw [if_neg (show ¬ (false = true) by decide)] at H; exact H
      clear H; have H := H1; clear H1
      by_cases c16 : (Int.tmod (wrap64 (t376 + t377)) 2) = 1
      ·
       rw [if_pos c16] at H; have c16b0 : ((Int.tmod (wrap64 (t376 + t377)) 2) == 1) = true := beq_iff_eq.mpr c16; have c16b1 : ((Int.tmod (wrap64 (t376 + t377)) 2) != 1) = false := bne_eq_false_iff_eq.mpr c16; clear c16
       simp only [Option.some.injEq, Prod.mk.injEq] at H
       obtain ⟨rfl, rfl, rfl⟩ := H; have hcz17_0 := bc0 BK373; have hcz17_1 := bc1 BK373; have hfz17_0 := bf BK373 0; have hfz17_1 := bf BK373 1
       go_wp2_with (first | (go_at_call 16; (with_reducible refine (compassref09_Degrees.calls k1 a0_0 _ _ l0_1 x9_1 t376 t377 _ ?side1 ?side2 A9.out).mono ?_); (case side1 => exact Kd.C_below HR0_1.out lb); (case side2 => exact HC0_1.out); rintro e w18 ⟨rfl, hb⟩; have n_ := a2 (blk_below (bx BK373.out) hb) (below_step lb hb); clear BK373 HB; obtain ⟨BK373, HB⟩ := n_; (try clear hb); (try clear hb2); (try clear hk); (try clear hi)))
       go_ret3
       exact ⟨by first | rfl | (simp [errW_none, errW_some] <;> rfl) | (simp [*, errW_none, errW_some] <;> rfl), lb⟩
      ·
       rw [if_neg c16] at H; have c16b0 : ((Int.tmod (wrap64 (t376 + t377)) 2) == 1) = false := beq_eq_false_iff_ne.mpr c16; have c16b1 : ((Int.tmod (wrap64 (t376 + t377)) 2) != 1) = true := bne_iff_ne.mpr c16; have H' := ak H; clear H; have hcz19_0 := bc0 BK373; have hcz19_1 := bc1 BK373; have hfz19_0 := bf BK373 0; have hfz19_1 := bf BK373 1
       go_wp2_with (first | (go_at_call 16; (with_reducible refine (compassref09_Degrees.calls k1 a0_0 _ _ l0_1 x9_1 t376 t377 _ ?side1 ?side2 A9.out).mono ?_); (case side1 => exact Kd.C_below HR0_1.out lb); (case side2 => exact HC0_1.out); rintro e w20 ⟨rfl, hb⟩; have n_ := a2 (blk_below (bx BK373.out) hb) (below_step lb hb); clear BK373 HB; obtain ⟨BK373, HB⟩ := n_; (try clear hb); (try clear hb2); (try clear hk); (try clear hi)))
       go_roundg k1
       case measure => have := HK1.out; omega
       case rel => exact ⟨(wrap64 (x9_1 + 1)), (by first | rfl | (simp [*]; done)), H', ⟨by have := HK1.out; omega⟩, ⟨bx BK373.out⟩, ⟨lb⟩⟩
    ·
     rw [if_neg c8] at H; have c8b0 : decide (x9_1 < a0_0) = false := decide_eq_false c8; clear c8; replace H := Option.bind_eq_some_iff.mp H; obtain ⟨t378, A210, H⟩ := H; replace H : ((compassref04_Parts.f k1 a0_0 l0_1).bind fun bt379 => (compassref09_Tour.l1 k1 t378 bt379.1 0 a0_0 l0_1)) = some (r1, r2, r3) := H; have A21 := ak A210; clear A210; replace H := Option.bind_eq_some_iff.mp H; obtain ⟨⟨t379, t382⟩, A220, H⟩ := H; replace H : (compassref09_Tour.l1 k1 t378 t379 0 a0_0 l0_1) = some (r1, r2, r3) := H; have A22 := ak A220; clear A220; have H' := ak H; clear H; have hcz23_0 := bc0 BK373; have hcz23_1 := bc1 BK373; have hfz23_0 := bf BK373 0; have hfz23_1 := bf BK373 1
     go_wp2_with (first | (go_at_call 24; (with_reducible refine (compassref09_First.calls k1 a0_0 _ _ l0_1 t378 _ ?side1 ?side2 A21.out).mono ?_); (case side1 => exact Kd.C_below HR0_1.out lb); (case side2 => exact HC0_1.out); rintro e w24 ⟨rfl, hb⟩; have n_ := a2 (blk_below (bx BK373.out) hb) (below_step lb hb); clear BK373 HB; obtain ⟨BK373, HB⟩ := n_; (try clear hb); (try clear hb2); (try clear hk); (try clear hi); have hcz25_0 := bc0 BK373; have hcz25_1 := bc1 BK373; have hfz25_0 := bf BK373 0; have hfz25_1 := bf BK373 1) | (go_at_call 25; (with_reducible refine (compassref04_Parts.calls k1 a0_0 _ _ l0_1 t379 t382 _ ?side1 ?side2 A22.out).mono ?_); (case side1 => exact Kd.C_below HR0_1.out lb); (case side2 => exact HC0_1.out); rintro e w26 ⟨v380, rfl, ho0, hb⟩; have n_ := a3 (Kd.R_lower ho0 (below_size lb)) (blk_below (bx BK373.out) hb) (below_step lb hb); clear BK373 HB; obtain ⟨HO381, BK373, HB⟩ := n_; (try clear hb); (try clear hb2); (try clear hk); (try clear hi); (try clear ho0)))
     go_loopg [15] k1 (fun kq v15 w' => ∃ (x15_2 : Int), v15 = .int .i64 x15_2 ∧ Aside0 (compassref09_Tour.l1 kq t378 t379 x15_2 a0_0 l0_1 = some (r1, r2, r3)) ∧ Aside0 (kq ≤ k1) ∧ Aside0 (Kd.R (Kd.int .i64) 3 w' w.heap.size (fun _ => True) v380 t379) ∧ Aside0 (w'.heap[gb373]? = some (.cells #[.int .i64 a0_0, (.slice A0_1 l0_1.length c0_1)] 24 (0, 0))) ∧ Aside0 (Below w.heap.size w w'))
     case atStart => exact ⟨(0), (by first | rfl | (simp [*]; done)), H', ⟨Nat.le_refl _⟩, ⟨rx HO381.out⟩, ⟨bx BK373.out⟩, ⟨lb⟩⟩
     case round =>
      clear H'; obtain ⟨x15_2, rfl, HA, HK2, HO_13, BK373, HB⟩ := hrel
      cases gk with
      | zero => exact absurd HA.out (by simp [compassref09_Tour.l1])
      | succ k2 =>
       have H := HA.out; clear HA
       simp only [compassref09_Tour.l1] at H
       by_cases c27 : x15_2 < a0_0
       ·
        rw [if_pos c27] at H; have c27b0 := decide_eq_true c27; clear c27; replace H := Option.bind_eq_some_iff.mp H; obtain ⟨⟨t383, t384⟩, A280, H⟩ := H; replace H : (if (wrap64 (t383 + t384)) > 0 then (if 0 ≤ x15_2 then (if x15_2 < (t379.length : Int) then (if 0 ≤ t378 then (if t378 < (t379.length : Int) then (if (rd t379 x15_2) = (rd t379 t378) then (compassref09_Tour.l1 k2 t378 t379 (wrap64 (x15_2 + 1)) a0_0 l0_1) else (some (0, x15_2, 91))) else (none)) else (none)) else (none)) else (none)) else (compassref09_Tour.l1 k2 t378 t379 (wrap64 (x15_2 + 1)) a0_0 l0_1)) = some (r1, r2, r3) := H; have A28 := ak A280; clear A280
        by_cases c29 : (wrap64 (t383 + t384)) > 0
        ·
         rw [if_pos c29] at H; have c29b0 := decide_eq_true c29; clear c29; replace H := ifd H; obtain ⟨c30b0, H⟩ := H; replace H := ifd H; obtain ⟨c31b0, H⟩ := H; replace H := ifd H; obtain ⟨c32b0, H⟩ := H; replace H := ifd H; obtain ⟨c33b0, H⟩ := H
         by_cases c34 : (rd t379 x15_2) = (rd t379 t378)
         ·
          rw [if_pos c34] at H; have c34b0 : ((rd t379 x15_2) == (rd t379 t378)) = true := beq_iff_eq.mpr c34; have c34b1 : ((rd t379 x15_2) != (rd t379 t378)) = false := bne_eq_false_iff_eq.mpr c34; clear c34; have H' := ak H; clear H; have hcz35_0 := bc0 BK373; have hcz35_1 := bc1 BK373; have hfz35_0 := bf BK373 0; have hfz35_1 := bf BK373 1
          go_wp2_with (first | (go_at_call 16; (with_reducible refine (compassref09_Degrees.calls k2 a0_0 _ _ l0_1 x15_2 t383 t384 _ ?side1 ?side2 A28.out).mono ?_); (case side1 => exact Kd.C_below HR0_1.out lb); (case side2 => exact HC0_1.out); rintro e w36 ⟨rfl, hb⟩; have n_ := a3 (Kd.R_below (rx HO_13.out) hb) (blk_below (bx BK373.out) hb) (below_step lb hb); clear HO_13 BK373 HB; obtain ⟨HO_13, BK373, HB⟩ := n_; (try clear hb); (try clear hb2); (try clear hk); (try clear hi); obtain ⟨Ao37, co37, eo37⟩ := Kd.R_slice HO_13.out; subst eo37; have p385 : 0 ≤ (x15_2 : Int) := oda; have q385 : x15_2 < (t379.length : Int) := oda; obtain ⟨ad385, e385, hx385_0⟩ := Kd.at_int (Kd.R_reads' HO_13.out).2.2 x15_2 p385 q385; cases e385; replace p385 := eq_true p385; replace q385 := eq_true q385; have p386 : 0 ≤ (t378 : Int) := oda; have q386 : t378 < (t379.length : Int) := oda; obtain ⟨ad386, e386, hx386_0⟩ := Kd.at_int (Kd.R_reads' HO_13.out).2.2 t378 p386 q386; obtain rfl : ad385 = ad386 := (by injection e386); replace p386 := eq_true p386; replace q386 := eq_true q386))
          repeat (go_quiet (first | (go_at_call 16; (with_reducible refine (compassref09_Degrees.calls k2 a0_0 _ _ l0_1 x15_2 t383 t384 _ ?side1 ?side2 A28.out).mono ?_); (case side1 => exact Kd.C_below HR0_1.out lb); (case side2 => exact HC0_1.out); rintro e w36 ⟨rfl, hb⟩; have n_ := a3 (Kd.R_below (rx HO_13.out) hb) (blk_below (bx BK373.out) hb) (below_step lb hb); clear HO_13 BK373 HB; obtain ⟨HO_13, BK373, HB⟩ := n_; (try clear hb); (try clear hb2); (try clear hk); (try clear hi); obtain ⟨Ao37, co37, eo37⟩ := Kd.R_slice HO_13.out; subst eo37; have p385 : 0 ≤ (x15_2 : Int) := oda; have q385 : x15_2 < (t379.length : Int) := oda; obtain ⟨ad385, e385, hx385_0⟩ := Kd.at_int (Kd.R_reads' HO_13.out).2.2 x15_2 p385 q385; cases e385; replace p385 := eq_true p385; replace q385 := eq_true q385; have p386 : 0 ≤ (t378 : Int) := oda; have q386 : t378 < (t379.length : Int) := oda; obtain ⟨ad386, e386, hx386_0⟩ := Kd.at_int (Kd.R_reads' HO_13.out).2.2 t378 p386 q386; obtain rfl : ad385 = ad386 := (by injection e386); replace p386 := eq_true p386; replace q386 := eq_true q386)); try go_wp2_with (first | (go_at_call 16; (with_reducible refine (compassref09_Degrees.calls k2 a0_0 _ _ l0_1 x15_2 t383 t384 _ ?side1 ?side2 A28.out).mono ?_); (case side1 => exact Kd.C_below HR0_1.out lb); (case side2 => exact HC0_1.out); rintro e w36 ⟨rfl, hb⟩; have n_ := a3 (Kd.R_below (rx HO_13.out) hb) (blk_below (bx BK373.out) hb) (below_step lb hb); clear HO_13 BK373 HB; obtain ⟨HO_13, BK373, HB⟩ := n_; (try clear hb); (try clear hb2); (try clear hk); (try clear hi); obtain ⟨Ao37, co37, eo37⟩ := Kd.R_slice HO_13.out; subst eo37; have p385 : 0 ≤ (x15_2 : Int) := oda; have q385 : x15_2 < (t379.length : Int) := oda; obtain ⟨ad385, e385, hx385_0⟩ := Kd.at_int (Kd.R_reads' HO_13.out).2.2 x15_2 p385 q385; cases e385; replace p385 := eq_true p385; replace q385 := eq_true q385; have p386 : 0 ≤ (t378 : Int) := oda; have q386 : t378 < (t379.length : Int) := oda; obtain ⟨ad386, e386, hx386_0⟩ := Kd.at_int (Kd.R_reads' HO_13.out).2.2 t378 p386 q386; obtain rfl : ad385 = ad386 := (by injection e386); replace p386 := eq_true p386; replace q386 := eq_true q386)))
          go_roundg k2
          case measure => have := HK1.out; have := HK2.out; omega
          case rel => exact ⟨(wrap64 (x15_2 + 1)), (by first | rfl | (simp [*]; done)), H', ⟨by have := HK1.out; have := HK2.out; omega⟩, ⟨rx HO_13.out⟩, ⟨bx BK373.out⟩, ⟨lb⟩⟩
         ·
          rw [if_neg c34] at H; have c34b0 : ((rd t379 x15_2) == (rd t379 t378)) = false := beq_eq_false_iff_ne.mpr c34; have c34b1 : ((rd t379 x15_2) != (rd t379 t378)) = true := bne_iff_ne.mpr c34
          simp only [Option.some.injEq, Prod.mk.injEq] at H
          obtain ⟨rfl, rfl, rfl⟩ := H; have hcz38_0 := bc0 BK373; have hcz38_1 := bc1 BK373; have hfz38_0 := bf BK373 0; have hfz38_1 := bf BK373 1
          go_wp2_with (first | (go_at_call 16; (with_reducible refine (compassref09_Degrees.calls k2 a0_0 _ _ l0_1 x15_2 t383 t384 _ ?side1 ?side2 A28.out).mono ?_); (case side1 => exact Kd.C_below HR0_1.out lb); (case side2 => exact HC0_1.out); rintro e w39 ⟨rfl, hb⟩; have n_ := a3 (Kd.R_below (rx HO_13.out) hb) (blk_below (bx BK373.out) hb) (below_step lb hb); clear HO_13 BK373 HB; obtain ⟨HO_13, BK373, HB⟩ := n_; (try clear hb); (try clear hb2); (try clear hk); (try clear hi); obtain ⟨Ao40, co40, eo40⟩ := Kd.R_slice HO_13.out; subst eo40; have p385 : 0 ≤ (x15_2 : Int) := oda; have q385 : x15_2 < (t379.length : Int) := oda; obtain ⟨ad385, e385, hx385_0⟩ := Kd.at_int (Kd.R_reads' HO_13.out).2.2 x15_2 p385 q385; cases e385; replace p385 := eq_true p385; replace q385 := eq_true q385; have p386 : 0 ≤ (t378 : Int) := oda; have q386 : t378 < (t379.length : Int) := oda; obtain ⟨ad386, e386, hx386_0⟩ := Kd.at_int (Kd.R_reads' HO_13.out).2.2 t378 p386 q386; obtain rfl : ad385 = ad386 := (by injection e386); replace p386 := eq_true p386; replace q386 := eq_true q386))
          repeat (go_quiet (first | (go_at_call 16; (with_reducible refine (compassref09_Degrees.calls k2 a0_0 _ _ l0_1 x15_2 t383 t384 _ ?side1 ?side2 A28.out).mono ?_); (case side1 => exact Kd.C_below HR0_1.out lb); (case side2 => exact HC0_1.out); rintro e w39 ⟨rfl, hb⟩; have n_ := a3 (Kd.R_below (rx HO_13.out) hb) (blk_below (bx BK373.out) hb) (below_step lb hb); clear HO_13 BK373 HB; obtain ⟨HO_13, BK373, HB⟩ := n_; (try clear hb); (try clear hb2); (try clear hk); (try clear hi); obtain ⟨Ao40, co40, eo40⟩ := Kd.R_slice HO_13.out; subst eo40; have p385 : 0 ≤ (x15_2 : Int) := oda; have q385 : x15_2 < (t379.length : Int) := oda; obtain ⟨ad385, e385, hx385_0⟩ := Kd.at_int (Kd.R_reads' HO_13.out).2.2 x15_2 p385 q385; cases e385; replace p385 := eq_true p385; replace q385 := eq_true q385; have p386 : 0 ≤ (t378 : Int) := oda; have q386 : t378 < (t379.length : Int) := oda; obtain ⟨ad386, e386, hx386_0⟩ := Kd.at_int (Kd.R_reads' HO_13.out).2.2 t378 p386 q386; obtain rfl : ad385 = ad386 := (by injection e386); replace p386 := eq_true p386; replace q386 := eq_true q386)); try go_wp2_with (first | (go_at_call 16; (with_reducible refine (compassref09_Degrees.calls k2 a0_0 _ _ l0_1 x15_2 t383 t384 _ ?side1 ?side2 A28.out).mono ?_); (case side1 => exact Kd.C_below HR0_1.out lb); (case side2 => exact HC0_1.out); rintro e w39 ⟨rfl, hb⟩; have n_ := a3 (Kd.R_below (rx HO_13.out) hb) (blk_below (bx BK373.out) hb) (below_step lb hb); clear HO_13 BK373 HB; obtain ⟨HO_13, BK373, HB⟩ := n_; (try clear hb); (try clear hb2); (try clear hk); (try clear hi); obtain ⟨Ao40, co40, eo40⟩ := Kd.R_slice HO_13.out; subst eo40; have p385 : 0 ≤ (x15_2 : Int) := oda; have q385 : x15_2 < (t379.length : Int) := oda; obtain ⟨ad385, e385, hx385_0⟩ := Kd.at_int (Kd.R_reads' HO_13.out).2.2 x15_2 p385 q385; cases e385; replace p385 := eq_true p385; replace q385 := eq_true q385; have p386 : 0 ≤ (t378 : Int) := oda; have q386 : t378 < (t379.length : Int) := oda; obtain ⟨ad386, e386, hx386_0⟩ := Kd.at_int (Kd.R_reads' HO_13.out).2.2 t378 p386 q386; obtain rfl : ad385 = ad386 := (by injection e386); replace p386 := eq_true p386; replace q386 := eq_true q386)))
          go_ret3
          exact ⟨by first | rfl | (simp [errW_none, errW_some] <;> rfl) | (simp [*, errW_none, errW_some] <;> rfl), lb⟩
        ·
         rw [if_neg c29] at H; have c29b0 : decide (0 < (wrap64 (t383 + t384))) = false := decide_eq_false c29; clear c29; have H' := ak H; clear H; have hcz41_0 := bc0 BK373; have hcz41_1 := bc1 BK373; have hfz41_0 := bf BK373 0; have hfz41_1 := bf BK373 1
         go_wp2_with (first | (go_at_call 16; (with_reducible refine (compassref09_Degrees.calls k2 a0_0 _ _ l0_1 x15_2 t383 t384 _ ?side1 ?side2 A28.out).mono ?_); (case side1 => exact Kd.C_below HR0_1.out lb); (case side2 => exact HC0_1.out); rintro e w42 ⟨rfl, hb⟩; have n_ := a3 (Kd.R_below (rx HO_13.out) hb) (blk_below (bx BK373.out) hb) (below_step lb hb); clear HO_13 BK373 HB; obtain ⟨HO_13, BK373, HB⟩ := n_; (try clear hb); (try clear hb2); (try clear hk); (try clear hi)))
         repeat (go_quiet (first | (go_at_call 16; (with_reducible refine (compassref09_Degrees.calls k2 a0_0 _ _ l0_1 x15_2 t383 t384 _ ?side1 ?side2 A28.out).mono ?_); (case side1 => exact Kd.C_below HR0_1.out lb); (case side2 => exact HC0_1.out); rintro e w42 ⟨rfl, hb⟩; have n_ := a3 (Kd.R_below (rx HO_13.out) hb) (blk_below (bx BK373.out) hb) (below_step lb hb); clear HO_13 BK373 HB; obtain ⟨HO_13, BK373, HB⟩ := n_; (try clear hb); (try clear hb2); (try clear hk); (try clear hi))); try go_wp2_with (first | (go_at_call 16; (with_reducible refine (compassref09_Degrees.calls k2 a0_0 _ _ l0_1 x15_2 t383 t384 _ ?side1 ?side2 A28.out).mono ?_); (case side1 => exact Kd.C_below HR0_1.out lb); (case side2 => exact HC0_1.out); rintro e w42 ⟨rfl, hb⟩; have n_ := a3 (Kd.R_below (rx HO_13.out) hb) (blk_below (bx BK373.out) hb) (below_step lb hb); clear HO_13 BK373 HB; obtain ⟨HO_13, BK373, HB⟩ := n_; (try clear hb); (try clear hb2); (try clear hk); (try clear hi))))
         go_roundg k2
         case measure => have := HK1.out; have := HK2.out; omega
         case rel => exact ⟨(wrap64 (x15_2 + 1)), (by first | rfl | (simp [*]; done)), H', ⟨by have := HK1.out; have := HK2.out; omega⟩, ⟨rx HO_13.out⟩, ⟨bx BK373.out⟩, ⟨lb⟩⟩
       ·
        rw [if_neg c27] at H; have c27b0 : decide (x15_2 < a0_0) = false := decide_eq_false c27; clear c27
        simp only [Option.some.injEq, Prod.mk.injEq] at H
        obtain ⟨rfl, rfl, rfl⟩ := H; have hcz43_0 := bc0 BK373; have hcz43_1 := bc1 BK373; have hfz43_0 := bf BK373 0; have hfz43_1 := bf BK373 1
        go_wp2
        repeat (go_quiet (fail); try go_wp2)
        go_ret3
        exact ⟨by first | rfl | (simp [errW_none, errW_some] <;> rfl) | (simp [*, errW_none, errW_some] <;> rfl), lb⟩
 ·
  rw [if_neg c4] at H; have c4b0 : (t374 == 0) = false := beq_eq_false_iff_ne.mpr c4; have c4b1 : (t374 != 0) = true := bne_iff_ne.mpr c4
  simp only [Option.some.injEq, Prod.mk.injEq] at H
  obtain ⟨rfl, rfl, rfl⟩ := H
  go_enter Try.func10, Try.ntmps10
  go_wp2_with (first | ((with_reducible refine gate_dst (N := 2) rfl ?_); refine box_event ?hg (N := 2) ?hd (cs := #[.int .i64 a0_0, .slice A0_1 l0_1.length c0_1]) (t := 24) ?hr ?_; (case hd => rfl); (case hg => rfl); (case hr => first | (go_simp; done) | (go_simp; rfl)); intro gb373 hg w44 hbox hb; have n_ := a4 (below_step lb hb) hbox (gw w hg) (gw w hg); clear HB; obtain ⟨HB, BK373, GW373, GE373⟩ := n_; clear hb hbox hg; have hcz45_0 := bc0 BK373; have hcz45_1 := bc1 BK373; have hfz45_0 := bf BK373 0; have hfz45_1 := bf BK373 1) | (go_at_call 17; (with_reducible refine (compassref03_Check.calls k a0_0 _ _ l0_1 t374 t375 _ ?side1 ?side2 A3.out).mono ?_); (case side1 => exact Kd.C_below HR0_1.out lb); (case side2 => exact HC0_1.out); rintro e w46 ⟨rfl, hb⟩; have n_ := a2 (blk_below (bx BK373.out) hb) (below_step lb hb); clear BK373 HB; obtain ⟨BK373, HB⟩ := n_; (try clear hb); (try clear hb2); (try clear hk); (try clear hi)))
  go_ret3
  exact ⟨by first | rfl | (simp [errW_none, errW_some] <;> rfl) | (simp [*, errW_none, errW_some] <;> rfl), lb⟩

end Go.Proofs.Ytplbkggdnonfbaa.Q
