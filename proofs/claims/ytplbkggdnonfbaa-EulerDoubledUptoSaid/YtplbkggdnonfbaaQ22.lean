import Derived.Test.YtplbkggdnonfbaaQ0
import Derived.Test.YtplbkggdnonfbaaQ21
namespace Go.Proofs.Ytplbkggdnonfbaa.Q
open Go.RowKit Go.Proofs.YtplbkggdnonfbaaW.PrintWords Go.Proofs.YtplbkggdnonfbaaW.PrintLast Go.Proofs.YtplbkggdnonfbaaW.PrintMore
attribute [local go_sem] max2_int min2_int max_two min_two max_three min_three max_four min_four   -- for this text's walks alone
set_option linter.unusedVariables false
set_option linter.unusedSimpArgs false

/-! ### compassref09_End: function 14 -/
mutual
def compassref09_End.l0 : Nat → List (S65) → Int → Int → Int → List (S45) → Option (Int × Int)
  | 0, _, _, _, _, _ => none
  | k + 1, x2, x9, x10, x391000, x391001 => if x10 < (x2.length : Int) then (if 0 ≤ x10 then (if ((rd_T65 x2 x10).f0) < 0 then (compassref09_End.j1 k x2 x9 x10 ((rd_T65 x2 x10).f0) true x391000 x391001) else (compassref09_End.j1 k x2 x9 x10 ((rd_T65 x2 x10).f0) (decide (((rd_T65 x2 x10).f0) ≥ (x391001.length : Int))) x391000 x391001)) else (none)) else (some (x9, 0))
def compassref09_End.j1 : Nat → List (S65) → Int → Int → Int → Bool → Int → List (S45) → Option (Int × Int)
  | 0, _, _, _, _, _, _, _ => none
  | k + 1, x2, x9, x10, x11, x38, x391000, x391001 => if x38 = true then (some (0, 32)) else (if 0 ≤ x10 then (if x10 < (x2.length : Int) then (if (rd_T65 x2 x10).f1 = true then (if 0 ≤ x11 then (if x11 < (x391001.length : Int) then (if ((rd_T45 x391001 x11).f1) = x9 then (compassref09_End.l0 k x2 ((rd_T45 x391001 x11).f0) (wrap64 (x10 + 1)) x391000 x391001) else (some (0, 91))) else (none)) else (none)) else (if 0 ≤ x11 then (if x11 < (x391001.length : Int) then (if ((rd_T45 x391001 x11).f0) = x9 then (compassref09_End.l0 k x2 ((rd_T45 x391001 x11).f1) (wrap64 (x10 + 1)) x391000 x391001) else (some (0, 91))) else (none)) else (none))) else (none)) else (none))
end
def compassref09_End.f (k : Nat) (a0_0 : Int) (l0_1 : List (S45)) (a1 : Int) (l2 : List (S65)) : Option (Int × Int) := (compassref04_Wrong.f k a0_0 l0_1 a1).bind fun t391 => (if t391 = 0 then (compassref09_End.l0 k l2 a1 0 a0_0 l0_1) else (some (0, t391)))
theorem compassref09_End.mono_l : ∀ k, (∀ y0 y1 y2 y3 y4, LeO (compassref09_End.l0 k y0 y1 y2 y3 y4) (compassref09_End.l0 (k + 1) y0 y1 y2 y3 y4)) ∧ (∀ y0 y1 y2 y3 y4 y5 y6, LeO (compassref09_End.j1 k y0 y1 y2 y3 y4 y5 y6) (compassref09_End.j1 (k + 1) y0 y1 y2 y3 y4 y5 y6))
  | 0 => ⟨fun _ _ _ _ _ r h => by simp [compassref09_End.l0] at h, fun _ _ _ _ _ _ _ r h => by simp [compassref09_End.j1] at h⟩
  | k + 1 => by
    obtain ⟨ih0, ih1⟩ := compassref09_End.mono_l k
    refine ⟨?_, ?_⟩
    · intro y0 y1 y2 y3 y4
      unfold compassref09_End.l0
      repeat' first
      | (with_reducible exact ih0 _ _ _ _ _)
      | (with_reducible exact ih1 _ _ _ _ _ _ _)
      | (with_reducible exact compassref04_Wrong.mono _ _ _ _)
      | (with_reducible exact LeO.refl _)
      | (with_reducible exact LeO.none _)
      | (with_reducible refine LeO.ite ?_ ?_)
      | (with_reducible refine LeO.bind ?_ (fun _ => ?_))
      | exact ih0 _ _ _ _ _
      | exact ih1 _ _ _ _ _ _ _
      | exact compassref04_Wrong.mono _ _ _ _
      | exact LeO.none _
      | refine LeO.ite ?_ ?_
      | refine LeO.bind ?_ (fun _ => ?_)
    · intro y0 y1 y2 y3 y4 y5 y6
      unfold compassref09_End.j1
      repeat' first
      | (with_reducible exact ih0 _ _ _ _ _)
      | (with_reducible exact ih1 _ _ _ _ _ _ _)
      | (with_reducible exact compassref04_Wrong.mono _ _ _ _)
      | (with_reducible exact LeO.refl _)
      | (with_reducible exact LeO.none _)
      | (with_reducible refine LeO.ite ?_ ?_)
      | (with_reducible refine LeO.bind ?_ (fun _ => ?_))
      | exact ih0 _ _ _ _ _
      | exact ih1 _ _ _ _ _ _ _
      | exact compassref04_Wrong.mono _ _ _ _
      | exact LeO.none _
      | refine LeO.ite ?_ ?_
      | refine LeO.bind ?_ (fun _ => ?_)
theorem compassref09_End.mono : ∀ a0 a1 a2 a3 k, LeO (compassref09_End.f k a0 a1 a2 a3) (compassref09_End.f (k + 1) a0 a1 a2 a3) := by
  intro a0 a1 a2 a3 k
  obtain ⟨ih0, ih1⟩ := compassref09_End.mono_l k
  unfold compassref09_End.f
  repeat' first
      | (with_reducible exact ih0 _ _ _ _ _)
      | (with_reducible exact ih1 _ _ _ _ _ _ _)
      | (with_reducible exact compassref04_Wrong.mono _ _ _ _)
      | (with_reducible exact LeO.refl _)
      | (with_reducible exact LeO.none _)
      | (with_reducible refine LeO.ite ?_ ?_)
      | (with_reducible refine LeO.bind ?_ (fun _ => ?_))
      | exact ih0 _ _ _ _ _
      | exact ih1 _ _ _ _ _ _ _
      | exact compassref04_Wrong.mono _ _ _ _
      | exact LeO.none _
      | refine LeO.ite ?_ ?_
      | refine LeO.bind ?_ (fun _ => ?_)
set_option maxHeartbeats 8000000 in
set_option maxRecDepth 100000 in
theorem compassref09_End.calls (k : Nat) (a0_0 : Int) (A0_1 : Option Addr) (c0_1 : Nat) (l0_1 : List (S45)) (a1 : Int) (A2 : Option Addr) (c2 : Nat) (l2 : List (S65)) (r1 : Int) (r2 : Int) (w : World) (hr0_1 : Kd.C k45 w A0_1 l0_1.length l0_1) (hc0_1 : l0_1.length ≤ c0_1) (hr2 : Kd.C k65 w A2 l2.length l2) (hc2 : l2.length ≤ c2) (h : compassref09_End.f k a0_0 l0_1 a1 l2 = some (r1, r2)) :
    Calls Try.prog 14 #[.agg #[.int .i64 a0_0, .slice A0_1 l0_1.length c0_1], .int .i64 a1, .slice A2 l2.length c2] w fun e w' => e = .returned (.tuple #[.int .i64 r1, .int .i64 r2]) ∧ Below w.heap.size w w' := by
 have hu24 := Try.underlying24; have HR0_1 := ak hr0_1; have HC0_1 := ak hc0_1; clear hr0_1 hc0_1; have HR2 := ak hr2; have HC2 := ak hc2; clear hr2 hc2; have HB := ak (Below.refl w.heap.size w); have H : ((compassref04_Wrong.f k a0_0 l0_1 a1).bind fun t391 => (if t391 = 0 then (compassref09_End.l0 k l2 a1 0 a0_0 l0_1) else (some (0, t391)))) = some (r1, r2) := h; clear h; replace H := Option.bind_eq_some_iff.mp H; obtain ⟨t391, A40, H⟩ := H; replace H : (if t391 = 0 then (compassref09_End.l0 k l2 a1 0 a0_0 l0_1) else (some (0, t391))) = some (r1, r2) := H; have A4 := ak A40; clear A40
 by_cases c5 : t391 = 0
 ·
  rw [if_pos c5] at H; have c5b0 : (t391 == 0) = true := beq_iff_eq.mpr c5; have c5b1 : (t391 != 0) = false := bne_eq_false_iff_eq.mpr c5; clear c5; have H' := ak H; clear H
  go_enter Try.func14, Try.ntmps14
  go_wp2_with (first | ((with_reducible refine gate_dst (N := 3) rfl ?_); (try (refine gate_guard (by rfl) ?_; dsimp only)); refine box_event ?hg (N := 3) ?hd (cs := #[.int .i64 a0_0, .slice A0_1 l0_1.length c0_1]) (t := 24) ?hr ?_; (case hd => rfl); (case hg => rfl); (case hr => first | (go_simp; done) | (go_simp; rfl)); intro gb390 hg w6 hbox hb; have n_ := a4 (below_step lb hb) hbox (gw w hg) (gw w hg); clear HB; obtain ⟨HB, BK390, GW390, GE390⟩ := n_; clear hb hbox hg; have hcz7_0 := bc0 BK390; have hcz7_1 := bc1 BK390; have hfz7_0 := bf BK390 0; have hfz7_1 := bf BK390 1) | ((with_reducible refine gate_callee (f := 26) rfl ?_); refine goesZ (some 14) rfl rfl Try.func26 (by kernel_rfl) rfl #[.agg #[.int .i64 a0_0, .slice A0_1 l0_1.length c0_1], .int .i64 a1] rfl ?_; (with_reducible refine (compassref04_Wrong.calls k a0_0 _ _ l0_1 a1 t391 _ ?side1 ?side2 A4.out).mono ?_); (case side1 => exact Kd.C_below HR0_1.out lb); (case side2 => exact HC0_1.out); rintro e w8 ⟨rfl, hb⟩; refine ⟨_, rfl, ?_⟩; have n_ := a2 (blk_below (bx BK390.out) hb) (below_step lb hb); clear BK390 HB; obtain ⟨BK390, HB⟩ := n_; (try clear hb); (try clear hb2); (try clear hk); (try clear hi)))
  go_loopg [9, 10] k (fun kq v9 v10 w' => ∃ (x9_1 : Int) (x10_1 : Int), v9 = .int .i64 x9_1 ∧ v10 = .int .i64 x10_1 ∧ Aside0 (compassref09_End.l0 kq l2 x9_1 x10_1 a0_0 l0_1 = some (r1, r2)) ∧ Aside0 (kq ≤ k) ∧ Aside0 (w'.heap[gb390]? = some (.cells #[.int .i64 a0_0, (.slice A0_1 l0_1.length c0_1)] 24 (0, 0))) ∧ Aside0 (Below w.heap.size w w'))
  case atStart => exact ⟨(a1), (0), (by first | rfl | (simp [*]; done)), (by first | rfl | (simp [*]; done)), H', ⟨Nat.le_refl _⟩, ⟨bx BK390.out⟩, ⟨lb⟩⟩
  case round =>
   clear H'; obtain ⟨x9_1, x10_1, rfl, rfl, HA, HK1, BK390, HB⟩ := hrel
   cases gk with
   | zero => exact absurd HA.out (by simp [compassref09_End.l0])
   | succ k1 =>
    have H := HA.out; clear HA
    simp only [compassref09_End.l0] at H
    by_cases c9 : x10_1 < (l2.length : Int)
    ·
     rw [if_pos c9] at H; have c9b0 := decide_eq_true c9; clear c9; replace H := ifd H; obtain ⟨c10b0, H⟩ := H; have HC11 := ak H; clear H; have p392 : 0 ≤ (x10_1 : Int) := oda; have q392 : x10_1 < (l2.length : Int) := oda; obtain ⟨ad392, e392, hx392_0, hx392_1⟩ := at_T65 HR2.out x10_1 p392 q392; cases e392
     (try replace hx392_0 := hbc HB hx392_0)
     (try replace hx392_1 := hbc HB hx392_1)
     replace p392 := eq_true p392; replace q392 := eq_true q392
     go_upto_region 9 with (fail)
     go_cut [38] (fun v38 wc => ∃ (kq : Nat) (x38_10 : Bool), v38 = .bool x38_10 ∧ Aside0 (compassref09_End.j1 kq l2 x9_1 x10_1 ((rd_T65 l2 x10_1).f0) x38_10 a0_0 l0_1 = some (r1, r2)) ∧ Aside0 (kq ≤ k1) ∧ Aside0 (wc.heap[gb390]? = some (.cells #[.int .i64 a0_0, (.slice A0_1 l0_1.length c0_1)] 24 (0, 0))) ∧ Aside0 (Below w.heap.size w wc))
     case first =>
      have H := HC11.out; clear HC11
      by_cases c12 : ((rd_T65 l2 x10_1).f0) < 0
      ·
       rw [if_pos c12] at H; have c12b0 := decide_eq_true c12; clear c12
       (first | rw [c12b0] | (simp only [i64_w, i32_w]; rw [c12b0]) | skip)
       have H' := ak H; clear H
       go_wp2
       go_meet
       case rel => exact ⟨_, (true), (by first | rfl | (simp [*]; done)), H', ⟨by have := HK1.out; first | omega | exact Nat.le_refl _⟩, ⟨bx BK390.out⟩, ⟨lb⟩⟩
      ·
       rw [if_neg c12] at H; have c12b0 : decide (((rd_T65 l2 x10_1).f0) < 0) = false := decide_eq_false c12; clear c12
       (first | rw [c12b0] | (simp only [i64_w, i32_w]; rw [c12b0]) | skip)
       have H' := ak H; clear H; have hcz13_0 := bc0 BK390; have hcz13_1 := bc1 BK390; have hfz13_0 := bf BK390 0; have hfz13_1 := bf BK390 1
       go_wp2
       go_meet
       case rel => exact ⟨_, (decide (((rd_T65 l2 x10_1).f0) ≥ (l0_1.length : Int))), (by first | rfl | (simp [*]; done)), H', ⟨by have := HK1.out; first | omega | exact Nat.le_refl _⟩, ⟨bx BK390.out⟩, ⟨lb⟩⟩
     case rest =>
      clear HC11; obtain ⟨kq, x38_10, rfl, HA, HJ10, BK390, HB⟩ := hcut
      cases kq with
      | zero => exact absurd HA.out (by simp [compassref09_End.j1])
      | succ kj10 =>
       have H := HA.out; clear HA
       simp only [compassref09_End.j1] at H
       by_cases c14 : x38_10 = true
       ·
        subst c14
        have H1 : (some (0, 32)) = some (r1, r2) := by rw [if_pos rfl] at H; exact H
        clear H; have H := H1; clear H1
        simp only [Option.some.injEq, Prod.mk.injEq] at H
        obtain ⟨rfl, rfl⟩ := H
        go_wp2
        go_ret2
        exact ⟨by first | rfl | (simp [errW_none, errW_some] <;> rfl) | (simp [*, errW_none, errW_some] <;> rfl), lb⟩
       ·
        replace c14 := Bool.eq_false_iff.mpr c14; subst c14
        have H1 : (if 0 ≤ x10_1 then (if x10_1 < (l2.length : Int) then (if (rd_T65 l2 x10_1).f1 = true then (if 0 ≤ ((rd_T65 l2 x10_1).f0) then (if ((rd_T65 l2 x10_1).f0) < (l0_1.length : Int) then (if ((rd_T45 l0_1 ((rd_T65 l2 x10_1).f0)).f1) = x9_1 then (compassref09_End.l0 kj10 l2 ((rd_T45 l0_1 ((rd_T65 l2 x10_1).f0)).f0) (wrap64 (x10_1 + 1)) a0_0 l0_1) else (some (0, 91))) else (none)) else (none)) else (if 0 ≤ ((rd_T65 l2 x10_1).f0) then (if ((rd_T65 l2 x10_1).f0) < (l0_1.length : Int) then (if ((rd_T45 l0_1 ((rd_T65 l2 x10_1).f0)).f0) = x9_1 then (compassref09_End.l0 kj10 l2 ((rd_T45 l0_1 ((rd_T65 l2 x10_1).f0)).f1) (wrap64 (x10_1 + 1)) a0_0 l0_1) else (some (0, 91))) else (none)) else (none))) else (none)) else (none)) = some (r1, r2) := by rw [if_neg (show ¬ (false = true) by decide)] at H; exact H
        clear H; have H := H1; clear H1; replace H := ifd H; obtain ⟨c15b0, H⟩ := H; replace H := ifd H; obtain ⟨c16b0, H⟩ := H; obtain ⟨bq17, hbq17⟩ : ∃ b_ : Bool, b_ = ((rd_T65 l2 x10_1).f1) := ⟨_, rfl⟩; replace H : (if bq17 = true then (if 0 ≤ ((rd_T65 l2 x10_1).f0) then (if ((rd_T65 l2 x10_1).f0) < (l0_1.length : Int) then (if ((rd_T45 l0_1 ((rd_T65 l2 x10_1).f0)).f1) = x9_1 then (compassref09_End.l0 kj10 l2 ((rd_T45 l0_1 ((rd_T65 l2 x10_1).f0)).f0) (wrap64 (x10_1 + 1)) a0_0 l0_1) else (some (0, 91))) else (none)) else (none)) else (if 0 ≤ ((rd_T65 l2 x10_1).f0) then (if ((rd_T65 l2 x10_1).f0) < (l0_1.length : Int) then (if ((rd_T45 l0_1 ((rd_T65 l2 x10_1).f0)).f0) = x9_1 then (compassref09_End.l0 kj10 l2 ((rd_T45 l0_1 ((rd_T65 l2 x10_1).f0)).f1) (wrap64 (x10_1 + 1)) a0_0 l0_1) else (some (0, 91))) else (none)) else (none))) = some (r1, r2) := by rw [← hbq17] at H; exact H
        have Nbq17 := ak hbq17; clear hbq17
        by_cases c18 : bq17 = true
        ·
         subst c18
         have H1 : (if 0 ≤ ((rd_T65 l2 x10_1).f0) then (if ((rd_T65 l2 x10_1).f0) < (l0_1.length : Int) then (if ((rd_T45 l0_1 ((rd_T65 l2 x10_1).f0)).f1) = x9_1 then (compassref09_End.l0 kj10 l2 ((rd_T45 l0_1 ((rd_T65 l2 x10_1).f0)).f0) (wrap64 (x10_1 + 1)) a0_0 l0_1) else (some (0, 91))) else (none)) else (none)) = some (r1, r2) := by rw [if_pos rfl] at H; exact H
         clear H; have H := H1; clear H1; replace H := ifd H; obtain ⟨c19b0, H⟩ := H; replace H := ifd H; obtain ⟨c20b0, H⟩ := H
         by_cases c21 : ((rd_T45 l0_1 ((rd_T65 l2 x10_1).f0)).f1) = x9_1
         ·
          rw [if_pos c21] at H; have c21b0 : (((rd_T45 l0_1 ((rd_T65 l2 x10_1).f0)).f1) == x9_1) = true := beq_iff_eq.mpr c21; have c21b1 : (((rd_T45 l0_1 ((rd_T65 l2 x10_1).f0)).f1) != x9_1) = false := bne_eq_false_iff_eq.mpr c21; clear c21; have H' := ak H; clear H; have p393 : 0 ≤ (x10_1 : Int) := oda; have q393 : x10_1 < (l2.length : Int) := oda; obtain ⟨ad393, e393, hx393_0, hx393_1⟩ := at_T65 HR2.out x10_1 p393 q393
          (try rw [← Nbq17.out] at hx393_1)
          obtain rfl : ad392 = ad393 := (by injection e393)
          (try replace hx393_0 := hbc HB hx393_0)
          (try replace hx393_1 := hbc HB hx393_1)
          replace p393 := eq_true p393; replace q393 := eq_true q393; have hcz22_0 := bc0 BK390; have hcz22_1 := bc1 BK390; have hfz22_0 := bf BK390 0; have hfz22_1 := bf BK390 1; have p394 : 0 ≤ (((rd_T65 l2 x10_1).f0) : Int) := oda; have q394 : ((rd_T65 l2 x10_1).f0) < (l0_1.length : Int) := oda; obtain ⟨ad394, e394, hx394_0, hx394_1, hx394_2, hx394_3⟩ := at_T45 HR0_1.out ((rd_T65 l2 x10_1).f0) p394 q394; cases e394
          (try replace hx394_0 := hbc HB hx394_0)
          (try replace hx394_1 := hbc HB hx394_1)
          (try replace hx394_2 := hbc HB hx394_2)
          (try replace hx394_3 := hbc HB hx394_3)
          replace p394 := eq_true p394; replace q394 := eq_true q394; have p395 : 0 ≤ (((rd_T65 l2 x10_1).f0) : Int) := oda; have q395 : ((rd_T65 l2 x10_1).f0) < (l0_1.length : Int) := oda; obtain ⟨ad395, e395, hx395_0, hx395_1, hx395_2, hx395_3⟩ := at_T45 HR0_1.out ((rd_T65 l2 x10_1).f0) p395 q395
          obtain rfl : ad394 = ad395 := (by injection e395)
          (try replace hx395_0 := hbc HB hx395_0)
          (try replace hx395_1 := hbc HB hx395_1)
          (try replace hx395_2 := hbc HB hx395_2)
          (try replace hx395_3 := hbc HB hx395_3)
          replace p395 := eq_true p395; replace q395 := eq_true q395
          go_wp2
          go_roundg kj10
          case measure => have := HK1.out; have := HJ10.out; omega
          case rel => exact ⟨((rd_T45 l0_1 ((rd_T65 l2 x10_1).f0)).f0), (wrap64 (x10_1 + 1)), (by first | rfl | (simp [*]; done)), (by first | rfl | (simp [*]; done)), H', ⟨by have := HK1.out; have := HJ10.out; omega⟩, ⟨bx BK390.out⟩, ⟨lb⟩⟩
         ·
          rw [if_neg c21] at H; have c21b0 : (((rd_T45 l0_1 ((rd_T65 l2 x10_1).f0)).f1) == x9_1) = false := beq_eq_false_iff_ne.mpr c21; have c21b1 : (((rd_T45 l0_1 ((rd_T65 l2 x10_1).f0)).f1) != x9_1) = true := bne_iff_ne.mpr c21
          simp only [Option.some.injEq, Prod.mk.injEq] at H
          obtain ⟨rfl, rfl⟩ := H; have p393 : 0 ≤ (x10_1 : Int) := oda; have q393 : x10_1 < (l2.length : Int) := oda; obtain ⟨ad393, e393, hx393_0, hx393_1⟩ := at_T65 HR2.out x10_1 p393 q393
          (try rw [← Nbq17.out] at hx393_1)
          obtain rfl : ad392 = ad393 := (by injection e393)
          (try replace hx393_0 := hbc HB hx393_0)
          (try replace hx393_1 := hbc HB hx393_1)
          replace p393 := eq_true p393; replace q393 := eq_true q393; have hcz23_0 := bc0 BK390; have hcz23_1 := bc1 BK390; have hfz23_0 := bf BK390 0; have hfz23_1 := bf BK390 1; have p394 : 0 ≤ (((rd_T65 l2 x10_1).f0) : Int) := oda; have q394 : ((rd_T65 l2 x10_1).f0) < (l0_1.length : Int) := oda; obtain ⟨ad394, e394, hx394_0, hx394_1, hx394_2, hx394_3⟩ := at_T45 HR0_1.out ((rd_T65 l2 x10_1).f0) p394 q394; cases e394
          (try replace hx394_0 := hbc HB hx394_0)
          (try replace hx394_1 := hbc HB hx394_1)
          (try replace hx394_2 := hbc HB hx394_2)
          (try replace hx394_3 := hbc HB hx394_3)
          replace p394 := eq_true p394; replace q394 := eq_true q394
          go_wp2
          go_ret2
          exact ⟨by first | rfl | (simp [errW_none, errW_some] <;> rfl) | (simp [*, errW_none, errW_some] <;> rfl), lb⟩
        ·
         replace c18 := Bool.eq_false_iff.mpr c18; subst c18
         have H1 : (if 0 ≤ ((rd_T65 l2 x10_1).f0) then (if ((rd_T65 l2 x10_1).f0) < (l0_1.length : Int) then (if ((rd_T45 l0_1 ((rd_T65 l2 x10_1).f0)).f0) = x9_1 then (compassref09_End.l0 kj10 l2 ((rd_T45 l0_1 ((rd_T65 l2 x10_1).f0)).f1) (wrap64 (x10_1 + 1)) a0_0 l0_1) else (some (0, 91))) else (none)) else (none)) = some (r1, r2) := by rw [if_neg (show ¬ (false = true) by decide)] at H; exact H
         clear H; have H := H1; clear H1; replace H := ifd H; obtain ⟨c24b0, H⟩ := H; replace H := ifd H; obtain ⟨c25b0, H⟩ := H
         by_cases c26 : ((rd_T45 l0_1 ((rd_T65 l2 x10_1).f0)).f0) = x9_1
         ·
          rw [if_pos c26] at H; have c26b0 : (((rd_T45 l0_1 ((rd_T65 l2 x10_1).f0)).f0) == x9_1) = true := beq_iff_eq.mpr c26; have c26b1 : (((rd_T45 l0_1 ((rd_T65 l2 x10_1).f0)).f0) != x9_1) = false := bne_eq_false_iff_eq.mpr c26; clear c26; have H' := ak H; clear H; have p393 : 0 ≤ (x10_1 : Int) := oda; have q393 : x10_1 < (l2.length : Int) := oda; obtain ⟨ad393, e393, hx393_0, hx393_1⟩ := at_T65 HR2.out x10_1 p393 q393
          (try rw [← Nbq17.out] at hx393_1)
          obtain rfl : ad392 = ad393 := (by injection e393)
          (try replace hx393_0 := hbc HB hx393_0)
          (try replace hx393_1 := hbc HB hx393_1)
          replace p393 := eq_true p393; replace q393 := eq_true q393; have hcz27_0 := bc0 BK390; have hcz27_1 := bc1 BK390; have hfz27_0 := bf BK390 0; have hfz27_1 := bf BK390 1; have p396 : 0 ≤ (((rd_T65 l2 x10_1).f0) : Int) := oda; have q396 : ((rd_T65 l2 x10_1).f0) < (l0_1.length : Int) := oda; obtain ⟨ad396, e396, hx396_0, hx396_1, hx396_2, hx396_3⟩ := at_T45 HR0_1.out ((rd_T65 l2 x10_1).f0) p396 q396; cases e396
          (try replace hx396_0 := hbc HB hx396_0)
          (try replace hx396_1 := hbc HB hx396_1)
          (try replace hx396_2 := hbc HB hx396_2)
          (try replace hx396_3 := hbc HB hx396_3)
          replace p396 := eq_true p396; replace q396 := eq_true q396; have p397 : 0 ≤ (((rd_T65 l2 x10_1).f0) : Int) := oda; have q397 : ((rd_T65 l2 x10_1).f0) < (l0_1.length : Int) := oda; obtain ⟨ad397, e397, hx397_0, hx397_1, hx397_2, hx397_3⟩ := at_T45 HR0_1.out ((rd_T65 l2 x10_1).f0) p397 q397
          obtain rfl : ad396 = ad397 := (by injection e397)
          (try replace hx397_0 := hbc HB hx397_0)
          (try replace hx397_1 := hbc HB hx397_1)
          (try replace hx397_2 := hbc HB hx397_2)
          (try replace hx397_3 := hbc HB hx397_3)
          replace p397 := eq_true p397; replace q397 := eq_true q397
          go_wp2
          go_roundg kj10
          case measure => have := HK1.out; have := HJ10.out; omega
          case rel => exact ⟨((rd_T45 l0_1 ((rd_T65 l2 x10_1).f0)).f1), (wrap64 (x10_1 + 1)), (by first | rfl | (simp [*]; done)), (by first | rfl | (simp [*]; done)), H', ⟨by have := HK1.out; have := HJ10.out; omega⟩, ⟨bx BK390.out⟩, ⟨lb⟩⟩
         ·
          rw [if_neg c26] at H; have c26b0 : (((rd_T45 l0_1 ((rd_T65 l2 x10_1).f0)).f0) == x9_1) = false := beq_eq_false_iff_ne.mpr c26; have c26b1 : (((rd_T45 l0_1 ((rd_T65 l2 x10_1).f0)).f0) != x9_1) = true := bne_iff_ne.mpr c26
          simp only [Option.some.injEq, Prod.mk.injEq] at H
          obtain ⟨rfl, rfl⟩ := H; have p393 : 0 ≤ (x10_1 : Int) := oda; have q393 : x10_1 < (l2.length : Int) := oda; obtain ⟨ad393, e393, hx393_0, hx393_1⟩ := at_T65 HR2.out x10_1 p393 q393
          (try rw [← Nbq17.out] at hx393_1)
          obtain rfl : ad392 = ad393 := (by injection e393)
          (try replace hx393_0 := hbc HB hx393_0)
          (try replace hx393_1 := hbc HB hx393_1)
          replace p393 := eq_true p393; replace q393 := eq_true q393; have hcz28_0 := bc0 BK390; have hcz28_1 := bc1 BK390; have hfz28_0 := bf BK390 0; have hfz28_1 := bf BK390 1; have p396 : 0 ≤ (((rd_T65 l2 x10_1).f0) : Int) := oda; have q396 : ((rd_T65 l2 x10_1).f0) < (l0_1.length : Int) := oda; obtain ⟨ad396, e396, hx396_0, hx396_1, hx396_2, hx396_3⟩ := at_T45 HR0_1.out ((rd_T65 l2 x10_1).f0) p396 q396; cases e396
          (try replace hx396_0 := hbc HB hx396_0)
          (try replace hx396_1 := hbc HB hx396_1)
          (try replace hx396_2 := hbc HB hx396_2)
          (try replace hx396_3 := hbc HB hx396_3)
          replace p396 := eq_true p396; replace q396 := eq_true q396
          go_wp2
          go_ret2
          exact ⟨by first | rfl | (simp [errW_none, errW_some] <;> rfl) | (simp [*, errW_none, errW_some] <;> rfl), lb⟩
    ·
     rw [if_neg c9] at H; have c9b0 : decide (x10_1 < (l2.length : Int)) = false := decide_eq_false c9; clear c9
     simp only [Option.some.injEq, Prod.mk.injEq] at H
     obtain ⟨rfl, rfl⟩ := H
     go_wp2
     go_ret2
     exact ⟨by first | rfl | (simp [errW_none, errW_some] <;> rfl) | (simp [*, errW_none, errW_some] <;> rfl), lb⟩
 ·
  rw [if_neg c5] at H; have c5b0 : (t391 == 0) = false := beq_eq_false_iff_ne.mpr c5; have c5b1 : (t391 != 0) = true := bne_iff_ne.mpr c5
  simp only [Option.some.injEq, Prod.mk.injEq] at H
  obtain ⟨rfl, rfl⟩ := H
  go_enter Try.func14, Try.ntmps14
  go_wp2_with (first | ((with_reducible refine gate_dst (N := 3) rfl ?_); (try (refine gate_guard (by rfl) ?_; dsimp only)); refine box_event ?hg (N := 3) ?hd (cs := #[.int .i64 a0_0, .slice A0_1 l0_1.length c0_1]) (t := 24) ?hr ?_; (case hd => rfl); (case hg => rfl); (case hr => first | (go_simp; done) | (go_simp; rfl)); intro gb390 hg w29 hbox hb; have n_ := a4 (below_step lb hb) hbox (gw w hg) (gw w hg); clear HB; obtain ⟨HB, BK390, GW390, GE390⟩ := n_; clear hb hbox hg; have hcz30_0 := bc0 BK390; have hcz30_1 := bc1 BK390; have hfz30_0 := bf BK390 0; have hfz30_1 := bf BK390 1) | ((with_reducible refine gate_callee (f := 26) rfl ?_); refine goesZ (some 14) rfl rfl Try.func26 (by kernel_rfl) rfl #[.agg #[.int .i64 a0_0, .slice A0_1 l0_1.length c0_1], .int .i64 a1] rfl ?_; (with_reducible refine (compassref04_Wrong.calls k a0_0 _ _ l0_1 a1 t391 _ ?side1 ?side2 A4.out).mono ?_); (case side1 => exact Kd.C_below HR0_1.out lb); (case side2 => exact HC0_1.out); rintro e w31 ⟨rfl, hb⟩; refine ⟨_, rfl, ?_⟩; have n_ := a2 (blk_below (bx BK390.out) hb) (below_step lb hb); clear BK390 HB; obtain ⟨BK390, HB⟩ := n_; (try clear hb); (try clear hb2); (try clear hk); (try clear hi)))
  go_ret2
  exact ⟨by first | rfl | (simp [errW_none, errW_some] <;> rfl) | (simp [*, errW_none, errW_some] <;> rfl), lb⟩

end Go.Proofs.Ytplbkggdnonfbaa.Q
