import Derived.Test.YtplbkggdnonfbaaQ0
import Derived.Test.YtplbkggdnonfbaaQ22
namespace Go.Proofs.Ytplbkggdnonfbaa.Q
open Go.RowKit Go.Proofs.YtplbkggdnonfbaaW.PrintWords Go.Proofs.YtplbkggdnonfbaaW.PrintLast Go.Proofs.YtplbkggdnonfbaaW.PrintMore
attribute [local go_sem] max2_int min2_int max_two min_two max_three min_three max_four min_four   -- for this text's walks alone
set_option linter.unusedVariables false
set_option linter.unusedSimpArgs false

/-! ### compassref09_Covers: function 11 -/
mutual
def compassref09_Covers.j0 : Nat → List (S65) → Bool → Bool → Int → List (S45) → Option (Bool)
  | 0, _, _, _, _, _ => none
  | k + 1, x2, x3, x35, x399000, x399001 => if x35 = true then (some false) else (compassref09_Covers.l0 k x2 x3 0 x399000 x399001)
def compassref09_Covers.l0 : Nat → List (S65) → Bool → Int → Int → List (S45) → Option (Bool)
  | 0, _, _, _, _, _ => none
  | k + 1, x2, x3, x11, x399000, x399001 => if x11 < (x399001.length : Int) then (compassref09_Covers.l1 k x2 x3 x11 0 0 x399000 x399001) else (some true)
def compassref09_Covers.l1 : Nat → List (S65) → Bool → Int → Int → Int → Int → List (S45) → Option (Bool)
  | 0, _, _, _, _, _, _, _ => none
  | k + 1, x2, x3, x11, x12, x13, x399000, x399001 => if x13 < (x2.length : Int) then (if 0 ≤ x13 then (if ((rd_T65 x2 x13).f0) = x11 then (if x3 = true then (if (rd_T65 x2 x13).f1 = true then (some false) else (compassref09_Covers.l1 k x2 x3 x11 (wrap64 (x12 + 1)) (wrap64 (x13 + 1)) x399000 x399001)) else (compassref09_Covers.l1 k x2 x3 x11 (wrap64 (x12 + 1)) (wrap64 (x13 + 1)) x399000 x399001)) else (if x3 = true then (if (rd_T65 x2 x13).f1 = true then (some false) else (compassref09_Covers.l1 k x2 x3 x11 x12 (wrap64 (x13 + 1)) x399000 x399001)) else (compassref09_Covers.l1 k x2 x3 x11 x12 (wrap64 (x13 + 1)) x399000 x399001))) else (none)) else (if x12 = 1 then (compassref09_Covers.l0 k x2 x3 (wrap64 (x11 + 1)) x399000 x399001) else (some false))
end
def compassref09_Covers.f (k : Nat) (a0_0 : Int) (l0_1 : List (S45)) (a1 : Int) (l2 : List (S65)) (a3 : Bool) : Option (Bool) := (compassref09_End.f k a0_0 l0_1 a1 l2).bind fun bt399 => (if bt399.2 = 0 then (if bt399.1 = a1 then (compassref09_Covers.j0 k l2 a3 ((l2.length : Int) != (l0_1.length : Int)) a0_0 l0_1) else (compassref09_Covers.j0 k l2 a3 true a0_0 l0_1)) else (compassref09_Covers.j0 k l2 a3 true a0_0 l0_1))
theorem compassref09_Covers.mono_l : ∀ k, (∀ y0 y1 y2 y3 y4, LeO (compassref09_Covers.j0 k y0 y1 y2 y3 y4) (compassref09_Covers.j0 (k + 1) y0 y1 y2 y3 y4)) ∧ (∀ y0 y1 y2 y3 y4, LeO (compassref09_Covers.l0 k y0 y1 y2 y3 y4) (compassref09_Covers.l0 (k + 1) y0 y1 y2 y3 y4)) ∧ (∀ y0 y1 y2 y3 y4 y5 y6, LeO (compassref09_Covers.l1 k y0 y1 y2 y3 y4 y5 y6) (compassref09_Covers.l1 (k + 1) y0 y1 y2 y3 y4 y5 y6))
  | 0 => ⟨fun _ _ _ _ _ r h => by simp [compassref09_Covers.j0] at h, fun _ _ _ _ _ r h => by simp [compassref09_Covers.l0] at h, fun _ _ _ _ _ _ _ r h => by simp [compassref09_Covers.l1] at h⟩
  | k + 1 => by
    obtain ⟨ih0, ih1, ih2⟩ := compassref09_Covers.mono_l k
    refine ⟨?_, ?_, ?_⟩
    · intro y0 y1 y2 y3 y4
      unfold compassref09_Covers.j0
      repeat' first
      | (with_reducible exact ih0 _ _ _ _ _)
      | (with_reducible exact ih1 _ _ _ _ _)
      | (with_reducible exact ih2 _ _ _ _ _ _ _)
      | (with_reducible exact compassref09_End.mono _ _ _ _ _)
      | (with_reducible exact LeO.refl _)
      | (with_reducible exact LeO.none _)
      | (with_reducible refine LeO.ite ?_ ?_)
      | (with_reducible refine LeO.bind ?_ (fun _ => ?_))
      | exact ih0 _ _ _ _ _
      | exact ih1 _ _ _ _ _
      | exact ih2 _ _ _ _ _ _ _
      | exact compassref09_End.mono _ _ _ _ _
      | exact LeO.none _
      | refine LeO.ite ?_ ?_
      | refine LeO.bind ?_ (fun _ => ?_)
    · intro y0 y1 y2 y3 y4
      unfold compassref09_Covers.l0
      repeat' first
      | (with_reducible exact ih0 _ _ _ _ _)
      | (with_reducible exact ih1 _ _ _ _ _)
      | (with_reducible exact ih2 _ _ _ _ _ _ _)
      | (with_reducible exact compassref09_End.mono _ _ _ _ _)
      | (with_reducible exact LeO.refl _)
      | (with_reducible exact LeO.none _)
      | (with_reducible refine LeO.ite ?_ ?_)
      | (with_reducible refine LeO.bind ?_ (fun _ => ?_))
      | exact ih0 _ _ _ _ _
      | exact ih1 _ _ _ _ _
      | exact ih2 _ _ _ _ _ _ _
      | exact compassref09_End.mono _ _ _ _ _
      | exact LeO.none _
      | refine LeO.ite ?_ ?_
      | refine LeO.bind ?_ (fun _ => ?_)
    · intro y0 y1 y2 y3 y4 y5 y6
      unfold compassref09_Covers.l1
      repeat' first
      | (with_reducible exact ih0 _ _ _ _ _)
      | (with_reducible exact ih1 _ _ _ _ _)
      | (with_reducible exact ih2 _ _ _ _ _ _ _)
      | (with_reducible exact compassref09_End.mono _ _ _ _ _)
      | (with_reducible exact LeO.refl _)
      | (with_reducible exact LeO.none _)
      | (with_reducible refine LeO.ite ?_ ?_)
      | (with_reducible refine LeO.bind ?_ (fun _ => ?_))
      | exact ih0 _ _ _ _ _
      | exact ih1 _ _ _ _ _
      | exact ih2 _ _ _ _ _ _ _
      | exact compassref09_End.mono _ _ _ _ _
      | exact LeO.none _
      | refine LeO.ite ?_ ?_
      | refine LeO.bind ?_ (fun _ => ?_)
theorem compassref09_Covers.mono : ∀ a0 a1 a2 a3 a4 k, LeO (compassref09_Covers.f k a0 a1 a2 a3 a4) (compassref09_Covers.f (k + 1) a0 a1 a2 a3 a4) := by
  intro a0 a1 a2 a3 a4 k
  obtain ⟨ih0, ih1, ih2⟩ := compassref09_Covers.mono_l k
  unfold compassref09_Covers.f
  repeat' first
      | (with_reducible exact ih0 _ _ _ _ _)
      | (with_reducible exact ih1 _ _ _ _ _)
      | (with_reducible exact ih2 _ _ _ _ _ _ _)
      | (with_reducible exact compassref09_End.mono _ _ _ _ _)
      | (with_reducible exact LeO.refl _)
      | (with_reducible exact LeO.none _)
      | (with_reducible refine LeO.ite ?_ ?_)
      | (with_reducible refine LeO.bind ?_ (fun _ => ?_))
      | exact ih0 _ _ _ _ _
      | exact ih1 _ _ _ _ _
      | exact ih2 _ _ _ _ _ _ _
      | exact compassref09_End.mono _ _ _ _ _
      | exact LeO.none _
      | refine LeO.ite ?_ ?_
      | refine LeO.bind ?_ (fun _ => ?_)
set_option maxHeartbeats 8000000 in
set_option maxRecDepth 100000 in
theorem compassref09_Covers.calls (k : Nat) (a0_0 : Int) (A0_1 : Option Addr) (c0_1 : Nat) (l0_1 : List (S45)) (a1 : Int) (A2 : Option Addr) (c2 : Nat) (l2 : List (S65)) (a3 : Bool) (r : Bool) (w : World) (hr0_1 : Kd.C k45 w A0_1 l0_1.length l0_1) (hc0_1 : l0_1.length ≤ c0_1) (hr2 : Kd.C k65 w A2 l2.length l2) (hc2 : l2.length ≤ c2) (h : compassref09_Covers.f k a0_0 l0_1 a1 l2 a3 = some r) :
    Calls Try.prog 11 #[.agg #[.int .i64 a0_0, .slice A0_1 l0_1.length c0_1], .int .i64 a1, .slice A2 l2.length c2, .bool a3] w fun e w' => e = .returned (.bool r) ∧ Below w.heap.size w w' := by
 have hu24 := Try.underlying24; have HR0_1 := ak hr0_1; have HC0_1 := ak hc0_1; clear hr0_1 hc0_1; have HR2 := ak hr2; have HC2 := ak hc2; clear hr2 hc2; have HB := ak (Below.refl w.heap.size w); have H : ((compassref09_End.f k a0_0 l0_1 a1 l2).bind fun bt399 => (if bt399.2 = 0 then (if bt399.1 = a1 then (compassref09_Covers.j0 k l2 a3 ((l2.length : Int) != (l0_1.length : Int)) a0_0 l0_1) else (compassref09_Covers.j0 k l2 a3 true a0_0 l0_1)) else (compassref09_Covers.j0 k l2 a3 true a0_0 l0_1))) = some r := h; clear h; replace H := Option.bind_eq_some_iff.mp H; obtain ⟨⟨t399, t400⟩, A50, H⟩ := H; replace H : (if t400 = 0 then (if t399 = a1 then (compassref09_Covers.j0 k l2 a3 ((l2.length : Int) != (l0_1.length : Int)) a0_0 l0_1) else (compassref09_Covers.j0 k l2 a3 true a0_0 l0_1)) else (compassref09_Covers.j0 k l2 a3 true a0_0 l0_1)) = some r := H; have A5 := ak A50; clear A50; have HC6 := ak H; clear H
 go_enter Try.func11, Try.ntmps11
 go_upto_region 2 with (first | ((with_reducible refine gate_dst (N := 4) rfl ?_); (try (refine gate_guard (by rfl) ?_; dsimp only)); refine box_event ?hg (N := 4) ?hd (cs := #[.int .i64 a0_0, .slice A0_1 l0_1.length c0_1]) (t := 24) ?hr ?_; (case hd => rfl); (case hg => rfl); (case hr => first | (go_simp; done) | (go_simp; rfl)); intro gb398 hg w7 hbox hb; have n_ := a4 (below_step lb hb) hbox (gw w hg) (gw w hg); clear HB; obtain ⟨HB, BK398, GW398, GE398⟩ := n_; clear hb hbox hg; have hcz8_0 := bc0 BK398; have hcz8_1 := bc1 BK398; have hfz8_0 := bf BK398 0; have hfz8_1 := bf BK398 1) | ((with_reducible refine gate_callee (f := 14) rfl ?_); refine goesZ (some 18) rfl rfl Try.func14 (by kernel_rfl) rfl #[.agg #[.int .i64 a0_0, .slice A0_1 l0_1.length c0_1], .int .i64 a1, .slice A2 l2.length c2] rfl ?_; (with_reducible refine (compassref09_End.calls k a0_0 _ _ l0_1 a1 _ _ l2 t399 t400 _ ?side1 ?side2 ?side3 ?side4 A5.out).mono ?_); (case side1 => exact Kd.C_below HR0_1.out lb); (case side2 => exact HC0_1.out); (case side3 => exact Kd.C_below HR2.out lb); (case side4 => exact HC2.out); rintro e w9 ⟨rfl, hb⟩; refine ⟨_, rfl, ?_⟩; have n_ := a2 (blk_below (bx BK398.out) hb) (below_step lb hb); clear BK398 HB; obtain ⟨BK398, HB⟩ := n_; (try clear hb); (try clear hb2); (try clear hk); (try clear hi)))
 (try simp only [Act.put, sA, sZ, sS])
 go_cut [35] (fun v35 wc => ∃ (kq : Nat) (x35_5 : Bool), v35 = .bool x35_5 ∧ Aside0 (compassref09_Covers.j0 kq l2 a3 x35_5 a0_0 l0_1 = some r) ∧ Aside0 (kq ≤ k) ∧ Aside0 (wc.heap[gb398]? = some (.cells #[.int .i64 a0_0, (.slice A0_1 l0_1.length c0_1)] 24 (0, 0))) ∧ Aside0 (Below w.heap.size w wc))
 case first =>
  have H := HC6.out; clear HC6
  by_cases c10 : t400 = 0
  ·
   rw [if_pos c10] at H; have c10b0 : (t400 == 0) = true := beq_iff_eq.mpr c10; have c10b1 : (t400 != 0) = false := bne_eq_false_iff_eq.mpr c10; clear c10
   (first | rw [c10b0] | (simp only [i64_w, i32_w]; rw [c10b0]) | skip)
   by_cases c11 : t399 = a1
   ·
    rw [if_pos c11] at H; have c11b0 : (t399 == a1) = true := beq_iff_eq.mpr c11; have c11b1 : (t399 != a1) = false := bne_eq_false_iff_eq.mpr c11; clear c11; have H' := ak H; clear H; have hcz12_0 := bc0 BK398; have hcz12_1 := bc1 BK398; have hfz12_0 := bf BK398 0; have hfz12_1 := bf BK398 1
    go_wp2
    go_meet
    case rel => exact ⟨_, (((l2.length : Int) != (l0_1.length : Int))), (by first | rfl | (simp [*]; done)), H', ⟨by first | omega | exact Nat.le_refl _⟩, ⟨bx BK398.out⟩, ⟨lb⟩⟩
   ·
    rw [if_neg c11] at H; have c11b0 : (t399 == a1) = false := beq_eq_false_iff_ne.mpr c11; have c11b1 : (t399 != a1) = true := bne_iff_ne.mpr c11; have H' := ak H; clear H
    go_wp2
    go_meet
    case rel => exact ⟨_, (true), (by first | rfl | (simp [*]; done)), H', ⟨by first | omega | exact Nat.le_refl _⟩, ⟨bx BK398.out⟩, ⟨lb⟩⟩
  ·
   rw [if_neg c10] at H; have c10b0 : (t400 == 0) = false := beq_eq_false_iff_ne.mpr c10; have c10b1 : (t400 != 0) = true := bne_iff_ne.mpr c10
   (first | rw [c10b0] | (simp only [i64_w, i32_w]; rw [c10b0]) | skip)
   have H' := ak H; clear H
   go_wp2
   go_meet
   case rel => exact ⟨_, (true), (by first | rfl | (simp [*]; done)), H', ⟨by first | omega | exact Nat.le_refl _⟩, ⟨bx BK398.out⟩, ⟨lb⟩⟩
 case rest =>
  clear HC6; obtain ⟨kq, x35_5, rfl, HA, HJ5, BK398, HB⟩ := hcut
  cases kq with
  | zero => exact absurd HA.out (by simp [compassref09_Covers.j0])
  | succ kj5 =>
   have H := HA.out; clear HA
   simp only [compassref09_Covers.j0] at H
   by_cases c13 : x35_5 = true
   ·
    subst c13
    have H1 : (some false) = some r := by rw [if_pos rfl] at H; exact H
    clear H; have H := H1; clear H1; obtain rfl := Option.some.inj H
    go_wp2
    go_ret
    exact ⟨by first | rfl | (simp [errW_none, errW_some] <;> rfl) | (simp [*, errW_none, errW_some] <;> rfl), lb⟩
   ·
    replace c13 := Bool.eq_false_iff.mpr c13; subst c13
    have H1 : (compassref09_Covers.l0 kj5 l2 a3 0 a0_0 l0_1) = some r := by rw [if_neg (show ¬ (false = true) by decide)] at H; exact H
    clear H; have H := H1; clear H1; have H' := ak H; clear H
    go_wp2
    go_loopg [11] kj5 (fun kq v11 w' => ∃ (x11_2 : Int), v11 = .int .i64 x11_2 ∧ Aside0 (compassref09_Covers.l0 kq l2 a3 x11_2 a0_0 l0_1 = some r) ∧ Aside0 (kq ≤ kj5) ∧ Aside0 (w'.heap[gb398]? = some (.cells #[.int .i64 a0_0, (.slice A0_1 l0_1.length c0_1)] 24 (0, 0))) ∧ Aside0 (Below w.heap.size w w'))
    case atStart => exact ⟨(0), (by first | rfl | (simp [*]; done)), H', ⟨Nat.le_refl _⟩, ⟨bx BK398.out⟩, ⟨lb⟩⟩
    case round =>
     clear H'; obtain ⟨x11_2, rfl, HA, HK2, BK398, HB⟩ := hrel
     cases gk with
     | zero => exact absurd HA.out (by simp [compassref09_Covers.l0])
     | succ k2 =>
      have H := HA.out; clear HA
      simp only [compassref09_Covers.l0] at H
      by_cases c14 : x11_2 < (l0_1.length : Int)
      ·
       rw [if_pos c14] at H; have c14b0 := decide_eq_true c14; clear c14; have H' := ak H; clear H; have hcz15_0 := bc0 BK398; have hcz15_1 := bc1 BK398; have hfz15_0 := bf BK398 0; have hfz15_1 := bf BK398 1
       go_wp2
       go_loopg [12, 13] k2 (fun kq v12 v13 w' => ∃ (x12_3 : Int) (x13_3 : Int), v12 = .int .i64 x12_3 ∧ v13 = .int .i64 x13_3 ∧ Aside0 (compassref09_Covers.l1 kq l2 a3 x11_2 x12_3 x13_3 a0_0 l0_1 = some r) ∧ Aside0 (kq ≤ k2) ∧ Aside0 (w'.heap[gb398]? = some (.cells #[.int .i64 a0_0, (.slice A0_1 l0_1.length c0_1)] 24 (0, 0))) ∧ Aside0 (Below w.heap.size w w'))
       case atStart => exact ⟨(0), (0), (by first | rfl | (simp [*]; done)), (by first | rfl | (simp [*]; done)), H', ⟨Nat.le_refl _⟩, ⟨bx BK398.out⟩, ⟨lb⟩⟩
       case round =>
        clear H'; obtain ⟨x12_3, x13_3, rfl, rfl, HA, HK3, BK398, HB⟩ := hrel
        cases gk with
        | zero => exact absurd HA.out (by simp [compassref09_Covers.l1])
        | succ k3 =>
         have H := HA.out; clear HA
         simp only [compassref09_Covers.l1] at H
         by_cases c16 : x13_3 < (l2.length : Int)
         ·
          rw [if_pos c16] at H; have c16b0 := decide_eq_true c16; clear c16; replace H := ifd H; obtain ⟨c17b0, H⟩ := H
          by_cases c18 : ((rd_T65 l2 x13_3).f0) = x11_2
          ·
           rw [if_pos c18] at H; have c18b0 : (((rd_T65 l2 x13_3).f0) == x11_2) = true := beq_iff_eq.mpr c18; have c18b1 : (((rd_T65 l2 x13_3).f0) != x11_2) = false := bne_eq_false_iff_eq.mpr c18; clear c18
           by_cases c19 : a3 = true
           ·
            subst c19
            have H1 : (if (rd_T65 l2 x13_3).f1 = true then (some false) else (compassref09_Covers.l1 k3 l2 true x11_2 (wrap64 (x12_3 + 1)) (wrap64 (x13_3 + 1)) a0_0 l0_1)) = some r := by rw [if_pos rfl] at H; exact H
            clear H; have H := H1; clear H1; obtain ⟨bq20, hbq20⟩ : ∃ b_ : Bool, b_ = ((rd_T65 l2 x13_3).f1) := ⟨_, rfl⟩; replace H : (if bq20 = true then (some false) else (compassref09_Covers.l1 k3 l2 true x11_2 (wrap64 (x12_3 + 1)) (wrap64 (x13_3 + 1)) a0_0 l0_1)) = some r := by rw [← hbq20] at H; exact H
            have Nbq20 := ak hbq20; clear hbq20
            by_cases c21 : bq20 = true
            ·
             subst c21
             have H1 : (some false) = some r := by rw [if_pos rfl] at H; exact H
             clear H; have H := H1; clear H1; obtain rfl := Option.some.inj H; have p401 : 0 ≤ (x13_3 : Int) := oda; have q401 : x13_3 < (l2.length : Int) := oda; obtain ⟨ad401, e401, hx401_0, hx401_1⟩ := at_T65 HR2.out x13_3 p401 q401
             (try rw [← Nbq20.out] at hx401_1)
             cases e401
             (try replace hx401_0 := hbc HB hx401_0)
             (try replace hx401_1 := hbc HB hx401_1)
             replace p401 := eq_true p401; replace q401 := eq_true q401; have p402 : 0 ≤ (x13_3 : Int) := oda; have q402 : x13_3 < (l2.length : Int) := oda; obtain ⟨ad402, e402, hx402_0, hx402_1⟩ := at_T65 HR2.out x13_3 p402 q402
             (try rw [← Nbq20.out] at hx402_1)
             obtain rfl : ad401 = ad402 := (by injection e402)
             (try replace hx402_0 := hbc HB hx402_0)
             (try replace hx402_1 := hbc HB hx402_1)
             replace p402 := eq_true p402; replace q402 := eq_true q402
             go_wp2
             go_ret
             exact ⟨by first | rfl | (simp [errW_none, errW_some] <;> rfl) | (simp [*, errW_none, errW_some] <;> rfl), lb⟩
            ·
             replace c21 := Bool.eq_false_iff.mpr c21; subst c21
             have H1 : (compassref09_Covers.l1 k3 l2 true x11_2 (wrap64 (x12_3 + 1)) (wrap64 (x13_3 + 1)) a0_0 l0_1) = some r := by rw [if_neg (show ¬ (false = true) by decide)] at H; exact H
             clear H; have H := H1; clear H1; have H' := ak H; clear H; have p401 : 0 ≤ (x13_3 : Int) := oda; have q401 : x13_3 < (l2.length : Int) := oda; obtain ⟨ad401, e401, hx401_0, hx401_1⟩ := at_T65 HR2.out x13_3 p401 q401
             (try rw [← Nbq20.out] at hx401_1)
             cases e401
             (try replace hx401_0 := hbc HB hx401_0)
             (try replace hx401_1 := hbc HB hx401_1)
             replace p401 := eq_true p401; replace q401 := eq_true q401; have p402 : 0 ≤ (x13_3 : Int) := oda; have q402 : x13_3 < (l2.length : Int) := oda; obtain ⟨ad402, e402, hx402_0, hx402_1⟩ := at_T65 HR2.out x13_3 p402 q402
             (try rw [← Nbq20.out] at hx402_1)
             obtain rfl : ad401 = ad402 := (by injection e402)
             (try replace hx402_0 := hbc HB hx402_0)
             (try replace hx402_1 := hbc HB hx402_1)
             replace p402 := eq_true p402; replace q402 := eq_true q402
             go_wp2
             go_roundg k3
             case measure => have := HJ5.out; have := HK2.out; have := HK3.out; omega
             case rel => exact ⟨(wrap64 (x12_3 + 1)), (wrap64 (x13_3 + 1)), (by first | rfl | (simp [*]; done)), (by first | rfl | (simp [*]; done)), H', ⟨by have := HJ5.out; have := HK2.out; have := HK3.out; omega⟩, ⟨bx BK398.out⟩, ⟨lb⟩⟩
           ·
            replace c19 := Bool.eq_false_iff.mpr c19; subst c19
            have H1 : (compassref09_Covers.l1 k3 l2 false x11_2 (wrap64 (x12_3 + 1)) (wrap64 (x13_3 + 1)) a0_0 l0_1) = some r := by rw [if_neg (show ¬ (false = true) by decide)] at H; exact H
            clear H; have H := H1; clear H1; have H' := ak H; clear H; have p401 : 0 ≤ (x13_3 : Int) := oda; have q401 : x13_3 < (l2.length : Int) := oda; obtain ⟨ad401, e401, hx401_0, hx401_1⟩ := at_T65 HR2.out x13_3 p401 q401; cases e401
            (try replace hx401_0 := hbc HB hx401_0)
            (try replace hx401_1 := hbc HB hx401_1)
            replace p401 := eq_true p401; replace q401 := eq_true q401
            go_wp2
            go_roundg k3
            case measure => have := HJ5.out; have := HK2.out; have := HK3.out; omega
            case rel => exact ⟨(wrap64 (x12_3 + 1)), (wrap64 (x13_3 + 1)), (by first | rfl | (simp [*]; done)), (by first | rfl | (simp [*]; done)), H', ⟨by have := HJ5.out; have := HK2.out; have := HK3.out; omega⟩, ⟨bx BK398.out⟩, ⟨lb⟩⟩
          ·
           rw [if_neg c18] at H; have c18b0 : (((rd_T65 l2 x13_3).f0) == x11_2) = false := beq_eq_false_iff_ne.mpr c18; have c18b1 : (((rd_T65 l2 x13_3).f0) != x11_2) = true := bne_iff_ne.mpr c18
           by_cases c22 : a3 = true
           ·
            subst c22
            have H1 : (if (rd_T65 l2 x13_3).f1 = true then (some false) else (compassref09_Covers.l1 k3 l2 true x11_2 x12_3 (wrap64 (x13_3 + 1)) a0_0 l0_1)) = some r := by rw [if_pos rfl] at H; exact H
            clear H; have H := H1; clear H1; obtain ⟨bq23, hbq23⟩ : ∃ b_ : Bool, b_ = ((rd_T65 l2 x13_3).f1) := ⟨_, rfl⟩; replace H : (if bq23 = true then (some false) else (compassref09_Covers.l1 k3 l2 true x11_2 x12_3 (wrap64 (x13_3 + 1)) a0_0 l0_1)) = some r := by rw [← hbq23] at H; exact H
            have Nbq23 := ak hbq23; clear hbq23
            by_cases c24 : bq23 = true
            ·
             subst c24
             have H1 : (some false) = some r := by rw [if_pos rfl] at H; exact H
             clear H; have H := H1; clear H1; obtain rfl := Option.some.inj H; have p401 : 0 ≤ (x13_3 : Int) := oda; have q401 : x13_3 < (l2.length : Int) := oda; obtain ⟨ad401, e401, hx401_0, hx401_1⟩ := at_T65 HR2.out x13_3 p401 q401
             (try rw [← Nbq23.out] at hx401_1)
             cases e401
             (try replace hx401_0 := hbc HB hx401_0)
             (try replace hx401_1 := hbc HB hx401_1)
             replace p401 := eq_true p401; replace q401 := eq_true q401; have p403 : 0 ≤ (x13_3 : Int) := oda; have q403 : x13_3 < (l2.length : Int) := oda; obtain ⟨ad403, e403, hx403_0, hx403_1⟩ := at_T65 HR2.out x13_3 p403 q403
             (try rw [← Nbq23.out] at hx403_1)
             obtain rfl : ad401 = ad403 := (by injection e403)
             (try replace hx403_0 := hbc HB hx403_0)
             (try replace hx403_1 := hbc HB hx403_1)
             replace p403 := eq_true p403; replace q403 := eq_true q403
             go_wp2
             go_ret
             exact ⟨by first | rfl | (simp [errW_none, errW_some] <;> rfl) | (simp [*, errW_none, errW_some] <;> rfl), lb⟩
            ·
             replace c24 := Bool.eq_false_iff.mpr c24; subst c24
             have H1 : (compassref09_Covers.l1 k3 l2 true x11_2 x12_3 (wrap64 (x13_3 + 1)) a0_0 l0_1) = some r := by rw [if_neg (show ¬ (false = true) by decide)] at H; exact H
             clear H; have H := H1; clear H1; have H' := ak H; clear H; have p401 : 0 ≤ (x13_3 : Int) := oda; have q401 : x13_3 < (l2.length : Int) := oda; obtain ⟨ad401, e401, hx401_0, hx401_1⟩ := at_T65 HR2.out x13_3 p401 q401
             (try rw [← Nbq23.out] at hx401_1)
             cases e401
             (try replace hx401_0 := hbc HB hx401_0)
             (try replace hx401_1 := hbc HB hx401_1)
             replace p401 := eq_true p401; replace q401 := eq_true q401; have p403 : 0 ≤ (x13_3 : Int) := oda; have q403 : x13_3 < (l2.length : Int) := oda; obtain ⟨ad403, e403, hx403_0, hx403_1⟩ := at_T65 HR2.out x13_3 p403 q403
             (try rw [← Nbq23.out] at hx403_1)
             obtain rfl : ad401 = ad403 := (by injection e403)
             (try replace hx403_0 := hbc HB hx403_0)
             (try replace hx403_1 := hbc HB hx403_1)
             replace p403 := eq_true p403; replace q403 := eq_true q403
             go_wp2
             go_roundg k3
             case measure => have := HJ5.out; have := HK2.out; have := HK3.out; omega
             case rel => exact ⟨(x12_3), (wrap64 (x13_3 + 1)), (by first | rfl | (simp [*]; done)), (by first | rfl | (simp [*]; done)), H', ⟨by have := HJ5.out; have := HK2.out; have := HK3.out; omega⟩, ⟨bx BK398.out⟩, ⟨lb⟩⟩
           ·
            replace c22 := Bool.eq_false_iff.mpr c22; subst c22
            have H1 : (compassref09_Covers.l1 k3 l2 false x11_2 x12_3 (wrap64 (x13_3 + 1)) a0_0 l0_1) = some r := by rw [if_neg (show ¬ (false = true) by decide)] at H; exact H
            clear H; have H := H1; clear H1; have H' := ak H; clear H; have p401 : 0 ≤ (x13_3 : Int) := oda; have q401 : x13_3 < (l2.length : Int) := oda; obtain ⟨ad401, e401, hx401_0, hx401_1⟩ := at_T65 HR2.out x13_3 p401 q401; cases e401
            (try replace hx401_0 := hbc HB hx401_0)
            (try replace hx401_1 := hbc HB hx401_1)
            replace p401 := eq_true p401; replace q401 := eq_true q401
            go_wp2
            go_roundg k3
            case measure => have := HJ5.out; have := HK2.out; have := HK3.out; omega
            case rel => exact ⟨(x12_3), (wrap64 (x13_3 + 1)), (by first | rfl | (simp [*]; done)), (by first | rfl | (simp [*]; done)), H', ⟨by have := HJ5.out; have := HK2.out; have := HK3.out; omega⟩, ⟨bx BK398.out⟩, ⟨lb⟩⟩
         ·
          rw [if_neg c16] at H; have c16b0 : decide (x13_3 < (l2.length : Int)) = false := decide_eq_false c16; clear c16
          by_cases c25 : x12_3 = 1
          ·
           rw [if_pos c25] at H; have c25b0 : (x12_3 == 1) = true := beq_iff_eq.mpr c25; have c25b1 : (x12_3 != 1) = false := bne_eq_false_iff_eq.mpr c25; clear c25; have H' := ak H; clear H
           go_wp2
           go_roundg k3
           case measure => have := HJ5.out; have := HK2.out; have := HK3.out; omega
           case rel => exact ⟨(wrap64 (x11_2 + 1)), (by first | rfl | (simp [*]; done)), H', ⟨by have := HJ5.out; have := HK2.out; have := HK3.out; omega⟩, ⟨bx BK398.out⟩, ⟨lb⟩⟩
          ·
           rw [if_neg c25] at H; have c25b0 : (x12_3 == 1) = false := beq_eq_false_iff_ne.mpr c25; have c25b1 : (x12_3 != 1) = true := bne_iff_ne.mpr c25; obtain rfl := Option.some.inj H
           go_wp2
           go_ret
           exact ⟨by first | rfl | (simp [errW_none, errW_some] <;> rfl) | (simp [*, errW_none, errW_some] <;> rfl), lb⟩
      ·
       rw [if_neg c14] at H; have c14b0 : decide (x11_2 < (l0_1.length : Int)) = false := decide_eq_false c14; clear c14; obtain rfl := Option.some.inj H; have hcz26_0 := bc0 BK398; have hcz26_1 := bc1 BK398; have hfz26_0 := bf BK398 0; have hfz26_1 := bf BK398 1
       go_wp2
       go_ret
       exact ⟨by first | rfl | (simp [errW_none, errW_some] <;> rfl) | (simp [*, errW_none, errW_some] <;> rfl), lb⟩

end Go.Proofs.Ytplbkggdnonfbaa.Q
