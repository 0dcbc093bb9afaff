import Derived.Test.YtplbkggdnonfbaaQ0
import Derived.Test.YtplbkggdnonfbaaQ17
import Derived.Test.YtplbkggdnonfbaaQ18
namespace Go.Proofs.Ytplbkggdnonfbaa.Q
open Go.RowKit Go.Proofs.YtplbkggdnonfbaaW.PrintWords Go.Proofs.YtplbkggdnonfbaaW.PrintLast Go.Proofs.YtplbkggdnonfbaaW.PrintMore
attribute [local go_sem] max2_int min2_int max_two min_two max_three min_three max_four min_four   -- for this text's walks alone
set_option linter.unusedVariables false
set_option linter.unusedSimpArgs false

/-! ### compassref04_Parts: function 25 -/
mutual
def compassref04_Parts.l0 : Nat → List Int → Int → Int → List (S45) → Option (List Int × Int)
  | 0, _, _, _, _ => none
  | k + 1, x6, x7, x356000, x356001 => if x7 < x356000 then (if 0 ≤ x7 then (if x7 < (x6.length : Int) then (compassref04_Parts.l0 k (x6.set (x7 : Int).toNat x7) (wrap64 (x7 + 1)) x356000 x356001) else (none)) else (none)) else (compassref04_Parts.l1 k x6 0 x356000 x356001)
def compassref04_Parts.l1 : Nat → List Int → Int → Int → List (S45) → Option (List Int × Int)
  | 0, _, _, _, _ => none
  | k + 1, x6, x8, x356000, x356001 => if x8 < x356000 then (compassref04_Parts.l2 k x6 x8 0 x356000 x356001) else ((compassref04_Numbered.f k x6).bind fun t362 => (some (t362, 0)))
def compassref04_Parts.l2 : Nat → List Int → Int → Int → Int → List (S45) → Option (List Int × Int)
  | 0, _, _, _, _, _ => none
  | k + 1, x6, x8, x9, x356000, x356001 => if x9 < (x356001.length : Int) then (if 0 ≤ x9 then (if 0 ≤ ((rd_T45 x356001 x9).f0) then (if ((rd_T45 x356001 x9).f0) < (x6.length : Int) then (if 0 ≤ ((rd_T45 x356001 x9).f1) then (if ((rd_T45 x356001 x9).f1) < (x6.length : Int) then (if (rd x6 ((rd_T45 x356001 x9).f0)) < (rd x6 ((rd_T45 x356001 x9).f1)) then (compassref04_Parts.l2 k (x6.set (((rd_T45 x356001 x9).f1) : Int).toNat (rd x6 ((rd_T45 x356001 x9).f0))) x8 (wrap64 (x9 + 1)) x356000 x356001) else (compassref04_Parts.l2 k (x6.set (((rd_T45 x356001 x9).f0) : Int).toNat (rd x6 ((rd_T45 x356001 x9).f1))) x8 (wrap64 (x9 + 1)) x356000 x356001)) else (none)) else (none)) else (none)) else (none)) else (none)) else (compassref04_Parts.l1 k x6 (wrap64 (x8 + 1)) x356000 x356001)
end
def compassref04_Parts.f (k : Nat) (a0_0 : Int) (l0_1 : List (S45)) : Option (List Int × Int) := (compassref03_Check.f k a0_0 l0_1).bind fun bt356 => (if bt356.1 = 0 then (if 0 ≤ a0_0 then (if (a0_0 : Int).toNat ≤ 35184372088832 then (compassref04_Parts.l0 k (List.replicate (a0_0 : Int).toNat 0) 0 a0_0 l0_1) else (none)) else (none)) else (some (([] : List Int), bt356.1)))
theorem compassref04_Parts.mono_l : ∀ k, (∀ y0 y1 y2 y3, LeO (compassref04_Parts.l0 k y0 y1 y2 y3) (compassref04_Parts.l0 (k + 1) y0 y1 y2 y3)) ∧ (∀ y0 y1 y2 y3, LeO (compassref04_Parts.l1 k y0 y1 y2 y3) (compassref04_Parts.l1 (k + 1) y0 y1 y2 y3)) ∧ (∀ y0 y1 y2 y3 y4, LeO (compassref04_Parts.l2 k y0 y1 y2 y3 y4) (compassref04_Parts.l2 (k + 1) y0 y1 y2 y3 y4))
  | 0 => ⟨fun _ _ _ _ r h => by simp [compassref04_Parts.l0] at h, fun _ _ _ _ r h => by simp [compassref04_Parts.l1] at h, fun _ _ _ _ _ r h => by simp [compassref04_Parts.l2] at h⟩
  | k + 1 => by
    obtain ⟨ih0, ih1, ih2⟩ := compassref04_Parts.mono_l k
    refine ⟨?_, ?_, ?_⟩
    · intro y0 y1 y2 y3
      unfold compassref04_Parts.l0
      repeat' first
      | (with_reducible exact ih0 _ _ _ _)
      | (with_reducible exact ih1 _ _ _ _)
      | (with_reducible exact ih2 _ _ _ _ _)
      | (with_reducible exact compassref03_Check.mono _ _ _)
      | (with_reducible exact compassref04_Numbered.mono _ _)
      | (with_reducible exact LeO.refl _)
      | (with_reducible exact LeO.none _)
      | (with_reducible refine LeO.ite ?_ ?_)
      | (with_reducible refine LeO.bind ?_ (fun _ => ?_))
      | exact ih0 _ _ _ _
      | exact ih1 _ _ _ _
      | exact ih2 _ _ _ _ _
      | exact compassref03_Check.mono _ _ _
      | exact compassref04_Numbered.mono _ _
      | exact LeO.none _
      | refine LeO.ite ?_ ?_
      | refine LeO.bind ?_ (fun _ => ?_)
    · intro y0 y1 y2 y3
      unfold compassref04_Parts.l1
      repeat' first
      | (with_reducible exact ih0 _ _ _ _)
      | (with_reducible exact ih1 _ _ _ _)
      | (with_reducible exact ih2 _ _ _ _ _)
      | (with_reducible exact compassref03_Check.mono _ _ _)
      | (with_reducible exact compassref04_Numbered.mono _ _)
      | (with_reducible exact LeO.refl _)
      | (with_reducible exact LeO.none _)
      | (with_reducible refine LeO.ite ?_ ?_)
      | (with_reducible refine LeO.bind ?_ (fun _ => ?_))
      | exact ih0 _ _ _ _
      | exact ih1 _ _ _ _
      | exact ih2 _ _ _ _ _
      | exact compassref03_Check.mono _ _ _
      | exact compassref04_Numbered.mono _ _
      | exact LeO.none _
      | refine LeO.ite ?_ ?_
      | refine LeO.bind ?_ (fun _ => ?_)
    · intro y0 y1 y2 y3 y4
      unfold compassref04_Parts.l2
      repeat' first
      | (with_reducible exact ih0 _ _ _ _)
      | (with_reducible exact ih1 _ _ _ _)
      | (with_reducible exact ih2 _ _ _ _ _)
      | (with_reducible exact compassref03_Check.mono _ _ _)
      | (with_reducible exact compassref04_Numbered.mono _ _)
      | (with_reducible exact LeO.refl _)
      | (with_reducible exact LeO.none _)
      | (with_reducible refine LeO.ite ?_ ?_)
      | (with_reducible refine LeO.bind ?_ (fun _ => ?_))
      | exact ih0 _ _ _ _
      | exact ih1 _ _ _ _
      | exact ih2 _ _ _ _ _
      | exact compassref03_Check.mono _ _ _
      | exact compassref04_Numbered.mono _ _
      | exact LeO.none _
      | refine LeO.ite ?_ ?_
      | refine LeO.bind ?_ (fun _ => ?_)
theorem compassref04_Parts.mono : ∀ a0 a1 k, LeO (compassref04_Parts.f k a0 a1) (compassref04_Parts.f (k + 1) a0 a1) := by
  intro a0 a1 k
  obtain ⟨ih0, ih1, ih2⟩ := compassref04_Parts.mono_l k
  unfold compassref04_Parts.f
  repeat' first
      | (with_reducible exact ih0 _ _ _ _)
      | (with_reducible exact ih1 _ _ _ _)
      | (with_reducible exact ih2 _ _ _ _ _)
      | (with_reducible exact compassref03_Check.mono _ _ _)
      | (with_reducible exact compassref04_Numbered.mono _ _)
      | (with_reducible exact LeO.refl _)
      | (with_reducible exact LeO.none _)
      | (with_reducible refine LeO.ite ?_ ?_)
      | (with_reducible refine LeO.bind ?_ (fun _ => ?_))
      | exact ih0 _ _ _ _
      | exact ih1 _ _ _ _
      | exact ih2 _ _ _ _ _
      | exact compassref03_Check.mono _ _ _
      | exact compassref04_Numbered.mono _ _
      | exact LeO.none _
      | refine LeO.ite ?_ ?_
      | refine LeO.bind ?_ (fun _ => ?_)
set_option maxHeartbeats 8000000 in
set_option maxRecDepth 100000 in
theorem compassref04_Parts.calls (k : Nat) (a0_0 : Int) (A0_1 : Option Addr) (c0_1 : Nat) (l0_1 : List (S45)) (r1 : List Int) (r2 : Int) (w : World) (hr0_1 : Kd.C k45 w A0_1 l0_1.length l0_1) (hc0_1 : l0_1.length ≤ c0_1) (h : compassref04_Parts.f k a0_0 l0_1 = some (r1, r2)) :
    Calls Try.prog 25 #[.agg #[.int .i64 a0_0, .slice A0_1 l0_1.length c0_1]] w fun e w' => ∃ v0_ : Value, e = .returned (.tuple #[v0_, .int .i64 r2]) ∧ Kd.R (Kd.int .i64) 3 w' w.heap.size (fun _ => True) v0_ r1 ∧ Below w.heap.size w w' := by
 have hu24 := Try.underlying24; have HR0_1 := ak hr0_1; have HC0_1 := ak hc0_1; clear hr0_1 hc0_1; have HB := ak (Below.refl w.heap.size w); have H : ((compassref03_Check.f k a0_0 l0_1).bind fun bt356 => (if bt356.1 = 0 then (if 0 ≤ a0_0 then (if (a0_0 : Int).toNat ≤ 35184372088832 then (compassref04_Parts.l0 k (List.replicate (a0_0 : Int).toNat 0) 0 a0_0 l0_1) else (none)) else (none)) else (some (([] : List Int), bt356.1)))) = some (r1, r2) := h; clear h; replace H := Option.bind_eq_some_iff.mp H; obtain ⟨⟨t356, t357⟩, A20, H⟩ := H; replace H : (if t356 = 0 then (if 0 ≤ a0_0 then (if (a0_0 : Int).toNat ≤ 35184372088832 then (compassref04_Parts.l0 k (List.replicate (a0_0 : Int).toNat 0) 0 a0_0 l0_1) else (none)) else (none)) else (some (([] : List Int), t356))) = some (r1, r2) := H; have A2 := ak A20; clear A20
 by_cases c3 : t356 = 0
 ·
  rw [if_pos c3] at H; have c3b0 : (t356 == 0) = true := beq_iff_eq.mpr c3; have c3b1 : (t356 != 0) = false := bne_eq_false_iff_eq.mpr c3; clear c3; replace H := ife H; obtain ⟨c4b0, c4b1, H⟩ := H; replace H := ife H; obtain ⟨c5b0, c5b1, H⟩ := H; obtain ⟨y358, hy358⟩ : ∃ y_ : List Int, y_ = (List.replicate (a0_0 : Int).toNat 0) := ⟨_, rfl⟩; rw [← hy358] at H; have Ny358 := ak hy358; clear hy358; have H' := ak H; clear H
  go_enter Try.func25, Try.ntmps25
  go_wp2_with (first | ((with_reducible refine gate_dst (N := 1) rfl ?_); refine box_event ?hg (N := 1) ?hd (cs := #[.int .i64 a0_0, .slice A0_1 l0_1.length c0_1]) (t := 24) ?hr ?_; (case hd => rfl); (case hg => rfl); (case hr => first | (go_simp; done) | (go_simp; rfl)); intro gb355 hg w6 hbox hb; have n_ := a4 (below_step lb hb) hbox (gw w hg) (gw w hg); clear HB; obtain ⟨HB, BK355, GW355, GE355⟩ := n_; clear hb hbox hg; have hcz7_0 := bc0 BK355; have hcz7_1 := bc1 BK355; have hfz7_0 := bf BK355 0; have hfz7_1 := bf BK355 1) | (go_at_call 17; (with_reducible refine (compassref03_Check.calls k a0_0 _ _ l0_1 t356 t357 _ ?side1 ?side2 A2.out).mono ?_); (case side1 => exact Kd.C_below HR0_1.out lb); (case side2 => exact HC0_1.out); rintro e w8 ⟨rfl, hb⟩; have n_ := a2 (blk_below (bx BK355.out) hb) (below_step lb hb); clear BK355 HB; obtain ⟨BK355, HB⟩ := n_; (try clear hb); (try clear hb2); (try clear hk); (try clear hi); have hcz9_0 := bc0 BK355; have hcz9_1 := bc1 BK355; have hfz9_0 := bf BK355 0; have hfz9_1 := bf BK355 1) | ((with_reducible refine gate_dst (N := 22) rfl ?_); refine Kd.R_make (Kd.int .i64) _ 3 rfl (N := 22) rfl 62 _ _ rfl a0_0 rfl rfl Try.underlying62 (.int .i64 0) 8 info3 rfl (by decide) (by omega) 0 (ok := fun _ => True) (okp := fun _ => True) rfl (fun _ hk => hk) trivial (oda) (Nat.le_trans (Nat.mul_le_mul_right _ (oda : a0_0.toNat ≤ 35184372088832)) (by omega)) (Below.refl _ _) (Nat.le_refl _) ?_; intro v359 w10 ho11 hb hg_ hnew_; clear hg_ hnew_; (first | rw [← Ny358.out] at ho11 | (simp only [Int.reduceToNat] at ho11; rw [← Ny358.out] at ho11)); have n_ := a3 (Kd.R_lower ho11 (below_size lb)) (blk_below (bx BK355.out) hb) (below_step lb hb); clear BK355 HB; obtain ⟨HO360, BK355, HB⟩ := n_; clear hb ho11))
  go_loopg [7] k (fun kq v7 w' => ∃ (x6_1 : List Int) (x7_1 : Int), v7 = .int .i64 x7_1 ∧ Aside0 (compassref04_Parts.l0 kq x6_1 x7_1 a0_0 l0_1 = some (r1, r2)) ∧ Aside0 (kq ≤ k) ∧ Aside0 (Kd.R (Kd.int .i64) 3 w' w.heap.size (fun _ => True) v359 x6_1) ∧ Aside0 (w'.heap[gb355]? = some (.cells #[.int .i64 a0_0, (.slice A0_1 l0_1.length c0_1)] 24 (0, 0))) ∧ Aside0 (Below w.heap.size w w'))
  case atStart => exact ⟨(y358), (0), (by first | rfl | (simp [*]; done)), H', ⟨Nat.le_refl _⟩, ⟨rx HO360.out⟩, ⟨bx BK355.out⟩, ⟨lb⟩⟩
  case round =>
   clear H'; obtain ⟨x6_1, x7_1, rfl, HA, HK1, HO_6, BK355, HB⟩ := hrel
   cases gk with
   | zero => exact absurd HA.out (by simp [compassref04_Parts.l0])
   | succ k1 =>
    have H := HA.out; clear HA
    simp only [compassref04_Parts.l0] at H
    by_cases c12 : x7_1 < a0_0
    ·
     rw [if_pos c12] at H; have c12b0 := decide_eq_true c12; clear c12; replace H := ifd H; obtain ⟨c13b0, H⟩ := H; replace H := ifd H; obtain ⟨c14b0, H⟩ := H; obtain ⟨y361, hy361⟩ : ∃ y_ : List Int, y_ = (x6_1.set (x7_1 : Int).toNat x7_1) := ⟨_, rfl⟩; rw [← hy361] at H; have Ny361 := ak hy361; clear hy361; have H' := ak H; clear H; have hcz16_0 := bc0 BK355; have hcz16_1 := bc1 BK355; have hfz16_0 := bf BK355 0; have hfz16_1 := bf BK355 1; have p15 : 0 ≤ (x7_1 : Int) := oda; have q15 : (x7_1 : Int) < ((x6_1.length : Int) : Int) := oda
     obtain ⟨go15, co15, eo15, gb15, gl15, cl15, HG15⟩ := Kd.R_form HO_6.out (by omega)
     (first | cases eo15 | (injection eo15 with ea_ en_ ec_; (first | subst ea_ | (injection ea_ with ea_; subst ea_)); subst ec_; clear en_))
     have GB15 := ak gb15; have GG15 := ak HG15; clear gb15 gl15 HG15; obtain ⟨hx15_0, hf15_0⟩ := Kd.R_celln 0 HO_6.out (x7_1 : Int) p15 q15; replace p15 := eq_true p15; replace q15 := eq_true q15; have HP17 := Kd.R_putg HO_6.out (x7_1 : Int) x7_1
     go_wp2_with (first | ((with_reducible refine gate_store (t := 3) (p := 32) rfl ?_); (try (rw [drewN_self wr]; generalize hq_ : World.drewN wr _ = wr; have n_ := a3 (Kd.R_at hq_ HO_6.out) (blk_at hq_ BK355.out) (below_at hq_ HB.out); clear hq_ HO_6 BK355 HB; obtain ⟨HO_6, BK355, HB⟩ := n_; (try (obtain ⟨hx15_0, hf15_0⟩ := Kd.R_celln 0 HO_6.out (x7_1 : Int) (of_eq_true p15) (of_eq_true q15))); (try (have HP17 := Kd.R_putg HO_6.out (x7_1 : Int) x7_1)))); refine store_event (t := 3) (p := 32) (v := ?vo_w18) (w1 := (wr.setCell ⟨go15, (x7_1 : Int).toNat, none⟩ (.int .i64 x7_1))) ?hg ?ho ?hn ?hr ?_; (case ho => rfl); (case hg => rfl); (case hn => rfl); (case hr => first | (go_simp; done) | (go_simp; rfl)); intro w18 hw; have hg : wr.grownBy w18 (some go15) := (by rw [hw]; exact HP17.2); have hp_ : Kd.R (Kd.int .i64) 3 w18 w.heap.size (fun _ => True) (.slice (some ⟨go15, 0, none⟩) x6_1.length co15) y361 := (by rw [hw, Ny361.out]; exact HP17.1); clear HP17; have n_ := a3 hp_ (blk_grown (bx BK355.out) hg (Kd.R_ne HO_6.out BK355.out (by decide))) (by rw [hw]; exact below_set (HB.out) GB15.out : Below w.heap.size w w18); clear HO_6 BK355 HB; obtain ⟨HO_6, BK355, HB⟩ := n_; clear hg hw hp_))
     go_roundg k1
     case measure => have := HK1.out; omega
     case rel => exact ⟨(y361), (wrap64 (x7_1 + 1)), (by first | rfl | (simp [*]; done)), H', ⟨by have := HK1.out; omega⟩, ⟨rx HO_6.out⟩, ⟨bx BK355.out⟩, ⟨lb⟩⟩
    ·
     rw [if_neg c12] at H; have c12b0 : decide (x7_1 < a0_0) = false := decide_eq_false c12; clear c12; have H' := ak H; clear H; have hcz19_0 := bc0 BK355; have hcz19_1 := bc1 BK355; have hfz19_0 := bf BK355 0; have hfz19_1 := bf BK355 1
     go_wp2
     repeat (go_quiet (fail); try go_wp2)
     go_loopg [8] k1 (fun kq v8 w' => ∃ (x6_2 : List Int) (x8_2 : Int), v8 = .int .i64 x8_2 ∧ Aside0 (compassref04_Parts.l1 kq x6_2 x8_2 a0_0 l0_1 = some (r1, r2)) ∧ Aside0 (kq ≤ k1) ∧ Aside0 (Kd.R (Kd.int .i64) 3 w' w.heap.size (fun _ => True) v359 x6_2) ∧ Aside0 (w'.heap[gb355]? = some (.cells #[.int .i64 a0_0, (.slice A0_1 l0_1.length c0_1)] 24 (0, 0))) ∧ Aside0 (Below w.heap.size w w'))
     case atStart => exact ⟨(x6_1), (0), (by first | rfl | (simp [*]; done)), H', ⟨Nat.le_refl _⟩, ⟨rx HO_6.out⟩, ⟨bx BK355.out⟩, ⟨lb⟩⟩
     case round =>
      clear H'; obtain ⟨x6_2, x8_2, rfl, HA, HK2, HO_6, BK355, HB⟩ := hrel
      cases gk with
      | zero => exact absurd HA.out (by simp [compassref04_Parts.l1])
      | succ k2 =>
       have H := HA.out; clear HA
       simp only [compassref04_Parts.l1] at H
       by_cases c20 : x8_2 < a0_0
       ·
        rw [if_pos c20] at H; have c20b0 := decide_eq_true c20; clear c20; have H' := ak H; clear H; have hcz21_0 := bc0 BK355; have hcz21_1 := bc1 BK355; have hfz21_0 := bf BK355 0; have hfz21_1 := bf BK355 1
        go_wp2
        repeat (go_quiet (fail); try go_wp2)
        go_loopg [9] k2 (fun kq v9 w' => ∃ (x6_3 : List Int) (x9_3 : Int), v9 = .int .i64 x9_3 ∧ Aside0 (compassref04_Parts.l2 kq x6_3 x8_2 x9_3 a0_0 l0_1 = some (r1, r2)) ∧ Aside0 (kq ≤ k2) ∧ Aside0 (Kd.R (Kd.int .i64) 3 w' w.heap.size (fun _ => True) v359 x6_3) ∧ Aside0 (w'.heap[gb355]? = some (.cells #[.int .i64 a0_0, (.slice A0_1 l0_1.length c0_1)] 24 (0, 0))) ∧ Aside0 (Below w.heap.size w w'))
        case atStart => exact ⟨(x6_2), (0), (by first | rfl | (simp [*]; done)), H', ⟨Nat.le_refl _⟩, ⟨rx HO_6.out⟩, ⟨bx BK355.out⟩, ⟨lb⟩⟩
        case round =>
         clear H'; obtain ⟨x6_3, x9_3, rfl, HA, HK3, HO_6, BK355, HB⟩ := hrel
         cases gk with
         | zero => exact absurd HA.out (by simp [compassref04_Parts.l2])
         | succ k3 =>
          have H := HA.out; clear HA
          simp only [compassref04_Parts.l2] at H
          by_cases c22 : x9_3 < (l0_1.length : Int)
          ·
           rw [if_pos c22] at H; have c22b0 := decide_eq_true c22; clear c22; replace H := ifd H; obtain ⟨c23b0, H⟩ := H; replace H := ifd H; obtain ⟨c24b0, H⟩ := H; replace H := ifd H; obtain ⟨c25b0, H⟩ := H; replace H := ifd H; obtain ⟨c26b0, H⟩ := H; replace H := ifd H; obtain ⟨c27b0, H⟩ := H
           by_cases c28 : (rd x6_3 ((rd_T45 l0_1 x9_3).f0)) < (rd x6_3 ((rd_T45 l0_1 x9_3).f1))
           ·
            rw [if_pos c28] at H; have c28b0 := decide_eq_true c28; clear c28; obtain ⟨y370, hy370⟩ : ∃ y_ : List Int, y_ = (x6_3.set (((rd_T45 l0_1 x9_3).f1) : Int).toNat (rd x6_3 ((rd_T45 l0_1 x9_3).f0))) := ⟨_, rfl⟩; rw [← hy370] at H; have Ny370 := ak hy370; clear hy370; have H' := ak H; clear H; have hcz30_0 := bc0 BK355; have hcz30_1 := bc1 BK355; have hfz30_0 := bf BK355 0; have hfz30_1 := bf BK355 1; have p365 : 0 ≤ (x9_3 : Int) := oda; have q365 : x9_3 < (l0_1.length : Int) := oda; obtain ⟨ad365, e365, hx365_0, hx365_1, hx365_2, hx365_3⟩ := at_T45 HR0_1.out x9_3 p365 q365; cases e365
            (try replace hx365_0 := hbc HB hx365_0)
            (try replace hx365_1 := hbc HB hx365_1)
            (try replace hx365_2 := hbc HB hx365_2)
            (try replace hx365_3 := hbc HB hx365_3)
            replace p365 := eq_true p365; replace q365 := eq_true q365; have p366 : 0 ≤ (x9_3 : Int) := oda; have q366 : x9_3 < (l0_1.length : Int) := oda; obtain ⟨ad366, e366, hx366_0, hx366_1, hx366_2, hx366_3⟩ := at_T45 HR0_1.out x9_3 p366 q366
            obtain rfl : ad365 = ad366 := (by injection e366)
            (try replace hx366_0 := hbc HB hx366_0)
            (try replace hx366_1 := hbc HB hx366_1)
            (try replace hx366_2 := hbc HB hx366_2)
            (try replace hx366_3 := hbc HB hx366_3)
            replace p366 := eq_true p366; replace q366 := eq_true q366; obtain ⟨Ao31, co31, eo31⟩ := Kd.R_slice HO_6.out; subst eo31; have p367 : 0 ≤ (((rd_T45 l0_1 x9_3).f0) : Int) := oda; have q367 : ((rd_T45 l0_1 x9_3).f0) < (x6_3.length : Int) := oda; obtain ⟨ad367, e367, hx367_0⟩ := Kd.at_int (Kd.R_reads' HO_6.out).2.2 ((rd_T45 l0_1 x9_3).f0) p367 q367; cases e367; replace p367 := eq_true p367; replace q367 := eq_true q367; have p368 : 0 ≤ (((rd_T45 l0_1 x9_3).f1) : Int) := oda; have q368 : ((rd_T45 l0_1 x9_3).f1) < (x6_3.length : Int) := oda; obtain ⟨ad368, e368, hx368_0⟩ := Kd.at_int (Kd.R_reads' HO_6.out).2.2 ((rd_T45 l0_1 x9_3).f1) p368 q368
            obtain rfl : ad367 = ad368 := (by injection e368)
            replace p368 := eq_true p368; replace q368 := eq_true q368; have p369 : 0 ≤ (((rd_T45 l0_1 x9_3).f0) : Int) := oda; have q369 : ((rd_T45 l0_1 x9_3).f0) < (x6_3.length : Int) := oda; obtain ⟨ad369, e369, hx369_0⟩ := Kd.at_int (Kd.R_reads' HO_6.out).2.2 ((rd_T45 l0_1 x9_3).f0) p369 q369
            obtain rfl : ad367 = ad369 := (by injection e369)
            replace p369 := eq_true p369; replace q369 := eq_true q369; have p29 : 0 ≤ (((rd_T45 l0_1 x9_3).f1) : Int) := oda; have q29 : (((rd_T45 l0_1 x9_3).f1) : Int) < ((x6_3.length : Int) : Int) := oda
            obtain ⟨go29, co29, eo29, gb29, gl29, cl29, HG29⟩ := Kd.R_form HO_6.out (by omega)
            (first | cases eo29 | (injection eo29 with ea_ en_ ec_; (first | subst ea_ | (injection ea_ with ea_; subst ea_)); subst ec_; clear en_))
            have GB29 := ak gb29; have GG29 := ak HG29; clear gb29 gl29 HG29
            (first | simp only [add_plain] at hx367_0 | skip)
            (first | simp only [add_plain] at hx368_0 | skip)
            (first | simp only [add_plain] at hx369_0 | skip)
            obtain ⟨hx29_0, hf29_0⟩ := Kd.R_celln 0 HO_6.out (((rd_T45 l0_1 x9_3).f1) : Int) p29 q29; replace p29 := eq_true p29; replace q29 := eq_true q29; have HP32 := Kd.R_putg HO_6.out (((rd_T45 l0_1 x9_3).f1) : Int) (rd x6_3 ((rd_T45 l0_1 x9_3).f0))
            go_wp2_with (fail)
            repeat (go_quiet (fail); try go_wp2_with (((with_reducible refine gate_store (t := 3) (p := 73) rfl ?_); (try (rw [drewN_self wr]; generalize hq_ : World.drewN wr _ = wr; have n_ := a3 (Kd.R_at hq_ HO_6.out) (blk_at hq_ BK355.out) (below_at hq_ HB.out); clear hq_ HO_6 BK355 HB; obtain ⟨HO_6, BK355, HB⟩ := n_; (try (obtain ⟨hx29_0, hf29_0⟩ := Kd.R_celln 0 HO_6.out (((rd_T45 l0_1 x9_3).f1) : Int) (of_eq_true p29) (of_eq_true q29))); (try (have HP32 := Kd.R_putg HO_6.out (((rd_T45 l0_1 x9_3).f1) : Int) (rd x6_3 ((rd_T45 l0_1 x9_3).f0)))))); refine store_event (t := 3) (p := 73) (v := ?vo_w33) (w1 := (wr.setCell ⟨go29, (((rd_T45 l0_1 x9_3).f1) : Int).toNat, none⟩ (.int .i64 (rd x6_3 ((rd_T45 l0_1 x9_3).f0))))) ?hg ?ho ?hn ?hr ?_; (case ho => rfl); (case hg => rfl); (case hn => rfl); (case hr => first | (go_simp; done) | (go_simp; rfl)); intro w33 hw; have hg : wr.grownBy w33 (some go29) := (by rw [hw]; exact HP32.2); have hp_ : Kd.R (Kd.int .i64) 3 w33 w.heap.size (fun _ => True) (.slice (some ⟨go29, 0, none⟩) x6_3.length co31) y370 := (by rw [hw, Ny370.out]; exact HP32.1); clear HP32; have n_ := a3 hp_ (blk_grown (bx BK355.out) hg (Kd.R_ne HO_6.out BK355.out (by decide))) (by rw [hw]; exact below_set (HB.out) GB29.out : Below w.heap.size w w33); clear HO_6 BK355 HB; obtain ⟨HO_6, BK355, HB⟩ := n_; clear hg hw hp_)))
            go_roundg k3
            case measure => have := HK1.out; have := HK2.out; have := HK3.out; omega
            case rel => exact ⟨(y370), (wrap64 (x9_3 + 1)), (by first | rfl | (simp [*]; done)), H', ⟨by have := HK1.out; have := HK2.out; have := HK3.out; omega⟩, ⟨rx HO_6.out⟩, ⟨bx BK355.out⟩, ⟨lb⟩⟩
           ·
            rw [if_neg c28] at H; have c28b0 : decide ((rd x6_3 ((rd_T45 l0_1 x9_3).f0)) < (rd x6_3 ((rd_T45 l0_1 x9_3).f1))) = false := decide_eq_false c28; clear c28; obtain ⟨y372, hy372⟩ : ∃ y_ : List Int, y_ = (x6_3.set (((rd_T45 l0_1 x9_3).f0) : Int).toNat (rd x6_3 ((rd_T45 l0_1 x9_3).f1))) := ⟨_, rfl⟩; rw [← hy372] at H; have Ny372 := ak hy372; clear hy372; have H' := ak H; clear H; have hcz35_0 := bc0 BK355; have hcz35_1 := bc1 BK355; have hfz35_0 := bf BK355 0; have hfz35_1 := bf BK355 1; have p365 : 0 ≤ (x9_3 : Int) := oda; have q365 : x9_3 < (l0_1.length : Int) := oda; obtain ⟨ad365, e365, hx365_0, hx365_1, hx365_2, hx365_3⟩ := at_T45 HR0_1.out x9_3 p365 q365; cases e365
            (try replace hx365_0 := hbc HB hx365_0)
            (try replace hx365_1 := hbc HB hx365_1)
            (try replace hx365_2 := hbc HB hx365_2)
            (try replace hx365_3 := hbc HB hx365_3)
            replace p365 := eq_true p365; replace q365 := eq_true q365; have p366 : 0 ≤ (x9_3 : Int) := oda; have q366 : x9_3 < (l0_1.length : Int) := oda; obtain ⟨ad366, e366, hx366_0, hx366_1, hx366_2, hx366_3⟩ := at_T45 HR0_1.out x9_3 p366 q366
            obtain rfl : ad365 = ad366 := (by injection e366)
            (try replace hx366_0 := hbc HB hx366_0)
            (try replace hx366_1 := hbc HB hx366_1)
            (try replace hx366_2 := hbc HB hx366_2)
            (try replace hx366_3 := hbc HB hx366_3)
            replace p366 := eq_true p366; replace q366 := eq_true q366; obtain ⟨Ao36, co36, eo36⟩ := Kd.R_slice HO_6.out; subst eo36; have p367 : 0 ≤ (((rd_T45 l0_1 x9_3).f0) : Int) := oda; have q367 : ((rd_T45 l0_1 x9_3).f0) < (x6_3.length : Int) := oda; obtain ⟨ad367, e367, hx367_0⟩ := Kd.at_int (Kd.R_reads' HO_6.out).2.2 ((rd_T45 l0_1 x9_3).f0) p367 q367; cases e367; replace p367 := eq_true p367; replace q367 := eq_true q367; have p368 : 0 ≤ (((rd_T45 l0_1 x9_3).f1) : Int) := oda; have q368 : ((rd_T45 l0_1 x9_3).f1) < (x6_3.length : Int) := oda; obtain ⟨ad368, e368, hx368_0⟩ := Kd.at_int (Kd.R_reads' HO_6.out).2.2 ((rd_T45 l0_1 x9_3).f1) p368 q368
            obtain rfl : ad367 = ad368 := (by injection e368)
            replace p368 := eq_true p368; replace q368 := eq_true q368; have p371 : 0 ≤ (((rd_T45 l0_1 x9_3).f1) : Int) := oda; have q371 : ((rd_T45 l0_1 x9_3).f1) < (x6_3.length : Int) := oda; obtain ⟨ad371, e371, hx371_0⟩ := Kd.at_int (Kd.R_reads' HO_6.out).2.2 ((rd_T45 l0_1 x9_3).f1) p371 q371
            obtain rfl : ad367 = ad371 := (by injection e371)
            replace p371 := eq_true p371; replace q371 := eq_true q371; have p34 : 0 ≤ (((rd_T45 l0_1 x9_3).f0) : Int) := oda; have q34 : (((rd_T45 l0_1 x9_3).f0) : Int) < ((x6_3.length : Int) : Int) := oda
            obtain ⟨go34, co34, eo34, gb34, gl34, cl34, HG34⟩ := Kd.R_form HO_6.out (by omega)
            (first | cases eo34 | (injection eo34 with ea_ en_ ec_; (first | subst ea_ | (injection ea_ with ea_; subst ea_)); subst ec_; clear en_))
            have GB34 := ak gb34; have GG34 := ak HG34; clear gb34 gl34 HG34
            (first | simp only [add_plain] at hx367_0 | skip)
            (first | simp only [add_plain] at hx368_0 | skip)
            (first | simp only [add_plain] at hx371_0 | skip)
            obtain ⟨hx34_0, hf34_0⟩ := Kd.R_celln 0 HO_6.out (((rd_T45 l0_1 x9_3).f0) : Int) p34 q34; replace p34 := eq_true p34; replace q34 := eq_true q34; have HP37 := Kd.R_putg HO_6.out (((rd_T45 l0_1 x9_3).f0) : Int) (rd x6_3 ((rd_T45 l0_1 x9_3).f1))
            go_wp2_with (fail)
            repeat (go_quiet (fail); try go_wp2_with (((with_reducible refine gate_store (t := 3) (p := 80) rfl ?_); (try (rw [drewN_self wr]; generalize hq_ : World.drewN wr _ = wr; have n_ := a3 (Kd.R_at hq_ HO_6.out) (blk_at hq_ BK355.out) (below_at hq_ HB.out); clear hq_ HO_6 BK355 HB; obtain ⟨HO_6, BK355, HB⟩ := n_; (try (obtain ⟨hx34_0, hf34_0⟩ := Kd.R_celln 0 HO_6.out (((rd_T45 l0_1 x9_3).f0) : Int) (of_eq_true p34) (of_eq_true q34))); (try (have HP37 := Kd.R_putg HO_6.out (((rd_T45 l0_1 x9_3).f0) : Int) (rd x6_3 ((rd_T45 l0_1 x9_3).f1)))))); refine store_event (t := 3) (p := 80) (v := ?vo_w38) (w1 := (wr.setCell ⟨go34, (((rd_T45 l0_1 x9_3).f0) : Int).toNat, none⟩ (.int .i64 (rd x6_3 ((rd_T45 l0_1 x9_3).f1))))) ?hg ?ho ?hn ?hr ?_; (case ho => rfl); (case hg => rfl); (case hn => rfl); (case hr => first | (go_simp; done) | (go_simp; rfl)); intro w38 hw; have hg : wr.grownBy w38 (some go34) := (by rw [hw]; exact HP37.2); have hp_ : Kd.R (Kd.int .i64) 3 w38 w.heap.size (fun _ => True) (.slice (some ⟨go34, 0, none⟩) x6_3.length co36) y372 := (by rw [hw, Ny372.out]; exact HP37.1); clear HP37; have n_ := a3 hp_ (blk_grown (bx BK355.out) hg (Kd.R_ne HO_6.out BK355.out (by decide))) (by rw [hw]; exact below_set (HB.out) GB34.out : Below w.heap.size w w38); clear HO_6 BK355 HB; obtain ⟨HO_6, BK355, HB⟩ := n_; clear hg hw hp_)))
            go_roundg k3
            case measure => have := HK1.out; have := HK2.out; have := HK3.out; omega
            case rel => exact ⟨(y372), (wrap64 (x9_3 + 1)), (by first | rfl | (simp [*]; done)), H', ⟨by have := HK1.out; have := HK2.out; have := HK3.out; omega⟩, ⟨rx HO_6.out⟩, ⟨bx BK355.out⟩, ⟨lb⟩⟩
          ·
           rw [if_neg c22] at H; have c22b0 : decide (x9_3 < (l0_1.length : Int)) = false := decide_eq_false c22; clear c22; have H' := ak H; clear H; have hcz39_0 := bc0 BK355; have hcz39_1 := bc1 BK355; have hfz39_0 := bf BK355 0; have hfz39_1 := bf BK355 1
           go_wp2
           repeat (go_quiet (fail); try go_wp2)
           go_roundg k3
           case measure => have := HK1.out; have := HK2.out; have := HK3.out; omega
           case rel => exact ⟨(x6_3), (wrap64 (x8_2 + 1)), (by first | rfl | (simp [*]; done)), H', ⟨by have := HK1.out; have := HK2.out; have := HK3.out; omega⟩, ⟨rx HO_6.out⟩, ⟨bx BK355.out⟩, ⟨lb⟩⟩
       ·
        rw [if_neg c20] at H; have c20b0 : decide (x8_2 < a0_0) = false := decide_eq_false c20; clear c20; replace H := Option.bind_eq_some_iff.mp H; obtain ⟨t362, A400, H⟩ := H; replace H : (some (t362, 0)) = some (r1, r2) := H; have A40 := ak A400; clear A400
        simp only [Option.some.injEq, Prod.mk.injEq] at H
        obtain ⟨rfl, rfl⟩ := H; have hcz41_0 := bc0 BK355; have hcz41_1 := bc1 BK355; have hfz41_0 := bf BK355 0; have hfz41_1 := bf BK355 1; obtain ⟨Ao42, co42, eo42⟩ := Kd.R_slice HO_6.out; subst eo42
        go_wp2_with (first | (go_at_call 34; (with_reducible refine (compassref04_Numbered.calls k2 _ _ x6_2 t362 _ ?side1 ?side2 A40.out).mono ?_); (case side1 => repeat (first | exact (Kd.R_reads' HO_6.out).2.2 | (with_reducible refine Kd.C_alloc ?_ _) | (with_reducible refine Kd.C_drewN ?_ _) | (with_reducible refine Kd.C_drew ?_))); (case side2 => exact (Kd.R_reads' HO_6.out).2.1); rintro e w43 ⟨v363, rfl, ho0, hb⟩; have n_ := a4 (Kd.R_elder' (rx HO_6.out) (Kd.R_base ho0) hb) (Kd.R_lower (Kd.R_new' ho0 (Kd.R_lt (rx HO_6.out))) (below_size lb)) (blk_below (bx BK355.out) hb) (below_step lb hb); clear HO_6 BK355 HB; obtain ⟨HO_6, HO364, BK355, HB⟩ := n_; (try clear hb); (try clear hb2); (try clear hk); (try clear hi); (try clear ho0)))
        go_ret2
        exact ⟨_, by first | rfl | (simp [errW_none, errW_some] <;> rfl) | (simp [*, errW_none, errW_some] <;> rfl), by exact rx (Kd.R_mono HO364.out (fun _ hk => trivial)), lb⟩
 ·
  rw [if_neg c3] at H; have c3b0 : (t356 == 0) = false := beq_eq_false_iff_ne.mpr c3; have c3b1 : (t356 != 0) = true := bne_iff_ne.mpr c3
  simp only [Option.some.injEq, Prod.mk.injEq] at H
  obtain ⟨rfl, rfl⟩ := H
  go_enter Try.func25, Try.ntmps25
  go_wp2_with (first | ((with_reducible refine gate_dst (N := 1) rfl ?_); refine box_event ?hg (N := 1) ?hd (cs := #[.int .i64 a0_0, .slice A0_1 l0_1.length c0_1]) (t := 24) ?hr ?_; (case hd => rfl); (case hg => rfl); (case hr => first | (go_simp; done) | (go_simp; rfl)); intro gb355 hg w44 hbox hb; have n_ := a4 (below_step lb hb) hbox (gw w hg) (gw w hg); clear HB; obtain ⟨HB, BK355, GW355, GE355⟩ := n_; clear hb hbox hg; have hcz45_0 := bc0 BK355; have hcz45_1 := bc1 BK355; have hfz45_0 := bf BK355 0; have hfz45_1 := bf BK355 1) | (go_at_call 17; (with_reducible refine (compassref03_Check.calls k a0_0 _ _ l0_1 t356 t357 _ ?side1 ?side2 A2.out).mono ?_); (case side1 => exact Kd.C_below HR0_1.out lb); (case side2 => exact HC0_1.out); rintro e w46 ⟨rfl, hb⟩; have n_ := a2 (blk_below (bx BK355.out) hb) (below_step lb hb); clear BK355 HB; obtain ⟨BK355, HB⟩ := n_; (try clear hb); (try clear hb2); (try clear hk); (try clear hi)))
  go_ret2
  exact ⟨_, by first | rfl | (simp [errW_none, errW_some] <;> rfl) | (simp [*, errW_none, errW_some] <;> rfl), by first | exact Kd.R_nil _ _ _ _ _ | exact Kd.N_nil _ _ _ _ _ | exact Kd.V_nil _ _ _ _ _ | exact Kd.Q_nil _ _ _ _ _ | exact Kd.S_nil _ _ _ _ _, lb⟩

end Go.Proofs.Ytplbkggdnonfbaa.Q
