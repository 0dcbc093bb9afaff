import Derived.Test.YtplbkggdnonfbaaQ0
import Derived.Test.YtplbkggdnonfbaaQ11
import Derived.Test.YtplbkggdnonfbaaQ14
import Derived.Test.YtplbkggdnonfbaaQ20
import Derived.Test.YtplbkggdnonfbaaQ23
import Derived.Test.YtplbkggdnonfbaaQ24
namespace Go.Proofs.Ytplbkggdnonfbaa.Q
open Go.RowKit Go.Proofs.YtplbkggdnonfbaaW.PrintWords Go.Proofs.YtplbkggdnonfbaaW.PrintLast Go.Proofs.YtplbkggdnonfbaaW.PrintMore
attribute [local go_sem] max2_int min2_int max_two min_two max_three min_three max_four min_four   -- for this text's walks alone
set_option linter.unusedVariables false
set_option linter.unusedSimpArgs false

/-! ### compasslaw09_EulerTours: function 3 -/
def compasslaw09_EulerTours.j0 : Nat → Bool → Int → Bool → Int → List (S45) → Int → List (S51) → Option (Bool)
  | 0, _, _, _, _, _, _, _ => none
  | k + 1, x1, x10, x40, x411000, x411001, x419000, x419001 => if x40 = true then (some false) else (if x10 = 0 then (if x411000 = 0 then (if (x419001.length : Int) = 0 then (some true) else ((compasslaw09_plain.f k x419000 x419001).bind fun t422 => ((compassref09_Covers.f k x411000 x411001 x419000 t422 x1).bind fun t425 => (some t425)))) else ((compasslaw09_plain.f k x419000 x419001).bind fun t426 => ((compassref09_Covers.f k x411000 x411001 x419000 t426 x1).bind fun t429 => (some t429)))) else (some ((x419001.length : Int) == 0)))
def compasslaw09_EulerTours.f (k : Nat) (a0_0 : Int) (l0_1 : List (S45)) (a1 : Bool) : Option (Bool) := (compasslaw09_awake.f k).bind fun t411 => (if t411 = true then ((euler_Tour.f k a0_0 l0_1 a1).bind fun bt412 => ((compassref09_Tour.f k a0_0 l0_1 a1).bind fun bt419 => (if bt412.2.2.2 = bt419.2.2 then (if bt412.2.2.1 = bt419.2.1 then (compasslaw09_EulerTours.j0 k a1 bt419.2.2 (bt412.1 != bt419.1) a0_0 l0_1 bt412.1 bt412.2.1) else (compasslaw09_EulerTours.j0 k a1 bt419.2.2 true a0_0 l0_1 bt412.1 bt412.2.1)) else (compasslaw09_EulerTours.j0 k a1 bt419.2.2 true a0_0 l0_1 bt412.1 bt412.2.1)))) else (some false))
theorem compasslaw09_EulerTours.mono_l : ∀ k, (∀ y0 y1 y2 y3 y4 y5 y6, LeO (compasslaw09_EulerTours.j0 k y0 y1 y2 y3 y4 y5 y6) (compasslaw09_EulerTours.j0 (k + 1) y0 y1 y2 y3 y4 y5 y6))
  | 0 => fun _ _ _ _ _ _ _ r h => by simp [compasslaw09_EulerTours.j0] at h
  | k + 1 => by
    have ih0 := compasslaw09_EulerTours.mono_l k
    · intro y0 y1 y2 y3 y4 y5 y6
      unfold compasslaw09_EulerTours.j0
      repeat' first
      | (with_reducible exact ih0 _ _ _ _ _ _ _)
      | (with_reducible exact compasslaw09_awake.mono _)
      | (with_reducible exact compasslaw09_plain.mono _ _ _)
      | (with_reducible exact compassref09_Covers.mono _ _ _ _ _ _)
      | (with_reducible exact compassref09_Tour.mono _ _ _ _)
      | (with_reducible exact euler_Tour.mono _ _ _ _)
      | (with_reducible exact LeO.refl _)
      | (with_reducible exact LeO.none _)
      | (with_reducible refine LeO.ite ?_ ?_)
      | (with_reducible refine LeO.bind ?_ (fun _ => ?_))
      | exact ih0 _ _ _ _ _ _ _
      | exact compasslaw09_awake.mono _
      | exact compasslaw09_plain.mono _ _ _
      | exact compassref09_Covers.mono _ _ _ _ _ _
      | exact compassref09_Tour.mono _ _ _ _
      | exact euler_Tour.mono _ _ _ _
      | exact LeO.none _
      | refine LeO.ite ?_ ?_
      | refine LeO.bind ?_ (fun _ => ?_)
theorem compasslaw09_EulerTours.mono : ∀ a0 a1 a2 k, LeO (compasslaw09_EulerTours.f k a0 a1 a2) (compasslaw09_EulerTours.f (k + 1) a0 a1 a2) := by
  intro a0 a1 a2 k
  have ih0 := compasslaw09_EulerTours.mono_l k
  unfold compasslaw09_EulerTours.f
  repeat' first
      | (with_reducible exact ih0 _ _ _ _ _ _ _)
      | (with_reducible exact compasslaw09_awake.mono _)
      | (with_reducible exact compasslaw09_plain.mono _ _ _)
      | (with_reducible exact compassref09_Covers.mono _ _ _ _ _ _)
      | (with_reducible exact compassref09_Tour.mono _ _ _ _)
      | (with_reducible exact euler_Tour.mono _ _ _ _)
      | (with_reducible exact LeO.refl _)
      | (with_reducible exact LeO.none _)
      | (with_reducible refine LeO.ite ?_ ?_)
      | (with_reducible refine LeO.bind ?_ (fun _ => ?_))
      | exact ih0 _ _ _ _ _ _ _
      | exact compasslaw09_awake.mono _
      | exact compasslaw09_plain.mono _ _ _
      | exact compassref09_Covers.mono _ _ _ _ _ _
      | exact compassref09_Tour.mono _ _ _ _
      | exact euler_Tour.mono _ _ _ _
      | exact LeO.none _
      | refine LeO.ite ?_ ?_
      | refine LeO.bind ?_ (fun _ => ?_)
def compasslaw09_EulerTours.T9 : Bool × List (List Nat × List Nat) := (true, [([], []), ([0], [0]), ([1], [1]), ([2], [2]), ([3], [3]), ([4, 3], [3, 4]), ([5, 3], [3, 5]), ([6, 3], [3, 6]), ([3, 7], [3, 7]), ([8, 3], [8]), ([9], [9]), ([9], [9]), ([11, 9], [9, 11]), ([9], [9]), ([13, 9, 9], [9, 13]), ([9], [9]), ([10, 12, 14, 15, 14, 9], [9, 10, 12, 14, 15]), ([9, 16], [9, 16]), ([17, 16, 0, 1, 2, 3, 4, 5, 6, 7, 8, 9, 10, 11, 12, 13, 14, 15, 16, 17], [17])])
def compasslaw09_EulerTours.B9 : List Nat := [0, 1, 3, 7, 15, 31, 63, 127, 255, 511, 1023, 1023, 3071, 1023, 9215, 1023, 65535, 131071, 262143]
theorem compasslaw09_EulerTours.tab9 : rtab .any (opsOf Try.f3 9) = compasslaw09_EulerTours.T9 := by kernel_rfl
theorem compasslaw09_EulerTours.bits9 : waitsOk compasslaw09_EulerTours.T9.2 compasslaw09_EulerTours.B9 = true := by kernel_rfl
set_option maxHeartbeats 8000000 in
set_option maxRecDepth 100000 in
theorem compasslaw09_EulerTours.calls (k : Nat) (a0_0 : Int) (A0_1 : Option Addr) (c0_1 : Nat) (l0_1 : List (S45)) (a1 : Bool) (r : Bool) (w : World) (hr0_1 : Kd.C k45 w A0_1 l0_1.length l0_1) (hc0_1 : l0_1.length ≤ c0_1) (hr_ : r = true) (h : compasslaw09_EulerTours.f k a0_0 l0_1 a1 = some r) :
    Calls Try.prog 3 #[.agg #[.int .i64 a0_0, .slice A0_1 l0_1.length c0_1], .bool a1] w fun e w' => e = .returned (.bool r) ∧ Below w.heap.size w w' := by
 have hu24 := Try.underlying24; have hu28 := Try.underlying28; have HR0_1 := ak hr0_1; have HC0_1 := ak hc0_1; clear hr0_1 hc0_1; have HB := ak (Below.refl w.heap.size w); have HR_ := ak hr_; clear hr_; have H : ((compasslaw09_awake.f k).bind fun t411 => (if t411 = true then ((euler_Tour.f k a0_0 l0_1 a1).bind fun bt412 => ((compassref09_Tour.f k a0_0 l0_1 a1).bind fun bt419 => (if bt412.2.2.2 = bt419.2.2 then (if bt412.2.2.1 = bt419.2.1 then (compasslaw09_EulerTours.j0 k a1 bt419.2.2 (bt412.1 != bt419.1) a0_0 l0_1 bt412.1 bt412.2.1) else (compasslaw09_EulerTours.j0 k a1 bt419.2.2 true a0_0 l0_1 bt412.1 bt412.2.1)) else (compasslaw09_EulerTours.j0 k a1 bt419.2.2 true a0_0 l0_1 bt412.1 bt412.2.1)))) else (some false))) = some r := h; clear h; replace H := Option.bind_eq_some_iff.mp H; obtain ⟨t411, A30, H⟩ := H; replace H : (if t411 = true then ((euler_Tour.f k a0_0 l0_1 a1).bind fun bt412 => ((compassref09_Tour.f k a0_0 l0_1 a1).bind fun bt419 => (if bt412.2.2.2 = bt419.2.2 then (if bt412.2.2.1 = bt419.2.1 then (compasslaw09_EulerTours.j0 k a1 bt419.2.2 (bt412.1 != bt419.1) a0_0 l0_1 bt412.1 bt412.2.1) else (compasslaw09_EulerTours.j0 k a1 bt419.2.2 true a0_0 l0_1 bt412.1 bt412.2.1)) else (compasslaw09_EulerTours.j0 k a1 bt419.2.2 true a0_0 l0_1 bt412.1 bt412.2.1)))) else (some false)) = some r := H; have A3 := ak A30; clear A30
 by_cases c4 : t411 = true
 ·
  subst c4
  have H1 : ((euler_Tour.f k a0_0 l0_1 a1).bind fun bt412 => ((compassref09_Tour.f k a0_0 l0_1 a1).bind fun bt419 => (if bt412.2.2.2 = bt419.2.2 then (if bt412.2.2.1 = bt419.2.1 then (compasslaw09_EulerTours.j0 k a1 bt419.2.2 (bt412.1 != bt419.1) a0_0 l0_1 bt412.1 bt412.2.1) else (compasslaw09_EulerTours.j0 k a1 bt419.2.2 true a0_0 l0_1 bt412.1 bt412.2.1)) else (compasslaw09_EulerTours.j0 k a1 bt419.2.2 true a0_0 l0_1 bt412.1 bt412.2.1)))) = some r := by rw [if_pos rfl] at H; exact H
  clear H; have H := H1; clear H1; replace H := Option.bind_eq_some_iff.mp H; obtain ⟨⟨t412, t413, t416, t417⟩, A50, H⟩ := H; replace H : ((compassref09_Tour.f k a0_0 l0_1 a1).bind fun bt419 => (if t417 = bt419.2.2 then (if t416 = bt419.2.1 then (compasslaw09_EulerTours.j0 k a1 bt419.2.2 (t412 != bt419.1) a0_0 l0_1 t412 t413) else (compasslaw09_EulerTours.j0 k a1 bt419.2.2 true a0_0 l0_1 t412 t413)) else (compasslaw09_EulerTours.j0 k a1 bt419.2.2 true a0_0 l0_1 t412 t413))) = some r := H; have A5 := ak A50; clear A50; replace H := Option.bind_eq_some_iff.mp H; obtain ⟨⟨t419, t420, t421⟩, A60, H⟩ := H; replace H : (if t417 = t421 then (if t416 = t420 then (compasslaw09_EulerTours.j0 k a1 t421 (t412 != t419) a0_0 l0_1 t412 t413) else (compasslaw09_EulerTours.j0 k a1 t421 true a0_0 l0_1 t412 t413)) else (compasslaw09_EulerTours.j0 k a1 t421 true a0_0 l0_1 t412 t413)) = some r := H; have A6 := ak A60; clear A60; have HC7 := ak H; clear H
  go_enter Try.func3, Try.ntmps3
  go_upto_region 5 with (first | ((with_reducible refine gate_dst (N := 2) rfl ?_); (try (refine gate_guard (by rfl) ?_; dsimp only)); refine box_event ?hg (N := 2) ?hd (cs := #[.int .i64 a0_0, .slice A0_1 l0_1.length c0_1]) (t := 24) ?hr ?_; (case hd => rfl); (case hg => rfl); (case hr => first | (go_simp; done) | (go_simp; rfl)); intro gb410 hg w8 hbox hb; have n_ := a4 (below_step lb hb) hbox (gw w hg) (gw w hg); clear HB; obtain ⟨HB, BK410, GW410, GE410⟩ := n_; clear hb hbox hg) | ((with_reducible refine gate_callee (f := 8) rfl ?_); refine goesZ (some 11) rfl rfl Try.func8 (by kernel_rfl) rfl #[] rfl ?_; (with_reducible refine (compasslaw09_awake.calls k  true _ A3.out).mono ?_); rintro e w9 ⟨rfl, hb⟩; refine ⟨_, rfl, ?_⟩; have n_ := a2 (blk_below (bx BK410.out) hb) (below_step lb hb); clear BK410 HB; obtain ⟨BK410, HB⟩ := n_; (try clear hb); (try clear hb2); (try clear hk); (try clear hi); have hcz10_0 := bc0 BK410; have hcz10_1 := bc1 BK410; have hfz10_0 := bf BK410 0; have hfz10_1 := bf BK410 1) | ((with_reducible refine gate_callee (f := 9) rfl ?_); refine goesZ (some 16) rfl rfl Try.func9 (by kernel_rfl) rfl #[.agg #[.int .i64 a0_0, .slice A0_1 l0_1.length c0_1], .bool a1] rfl ?_; (with_reducible refine (euler_Tour.calls k a0_0 _ _ l0_1 a1 t412 t413 t416 t417 _ ?side1 ?side2 A5.out).mono ?_); (case side1 => exact Kd.C_below HR0_1.out lb); (case side2 => exact HC0_1.out); rintro e w11 ⟨v414, rfl, ho0, hb⟩; refine ⟨_, rfl, ?_⟩; have n_ := a3 (Kd.R_lower ho0 (below_size lb)) (blk_below (bx BK410.out) hb) (below_step lb hb); clear BK410 HB; obtain ⟨HO415, BK410, HB⟩ := n_; (try clear hb); (try clear hb2); (try clear hk); (try clear hi); (try clear ho0)) | ((with_reducible refine gate_dst (N := 5) rfl ?_); (try (refine gate_guard (by rfl) ?_; dsimp only)); refine box_event ?hg (N := 5) ?hd (cs := #[.int .i64 0, .slice none 0 0]) (t := 28) ?hr ?_; (case hd => rfl); (case hg => rfl); (case hr => first | (go_simp; done) | (go_simp; rfl)); intro gb418 hg w12 hbox hb; have n_ := a8 (Kd.R_below (rx HO415.out) hb) (blk_below (bx BK410.out) hb) (below_step lb hb) hbox (gw w hg) (gw w hg) (nl hg BK410) (nr hg BK410); clear HO415 BK410 HB; obtain ⟨HO415, BK410, HB, BK418, GW418, GE418, NB410_418, NB418_410⟩ := n_; clear hb hbox hg; have hnb13 := NB418_410.out; have hnc13 := NB410_418.out; have hcz14_0 := bc0 BK418; have hcz14_1 := bc1 BK418; have hfz14_0 := bf BK418 0; have hfz14_1 := bf BK418 1; obtain ⟨Ao15, co15, eo15⟩ := Kd.R_slice HO415.out; subst eo15; have hcz16_0 := bc0 BK410; have hcz16_1 := bc1 BK410; have hfz16_0 := bf BK410 0; have hfz16_1 := bf BK410 1) | ((with_reducible refine gate_callee (f := 10) rfl ?_); refine goesZ (some 23) rfl rfl Try.func10 (by kernel_rfl) rfl #[.agg #[.int .i64 a0_0, .slice A0_1 l0_1.length c0_1], .bool a1] rfl ?_; (with_reducible refine (compassref09_Tour.calls k a0_0 _ _ l0_1 a1 t419 t420 t421 _ ?side1 ?side2 A6.out).mono ?_); (case side1 => exact Kd.C_below HR0_1.out lb); (case side2 => exact HC0_1.out); rintro e w17 ⟨rfl, hb⟩; refine ⟨_, rfl, ?_⟩; have n_ := a4 (Kd.R_below (by (with_reducible repeat (first | apply Kd.R_alloc | apply Kd.R_drewN | apply Kd.R_drew)); exact (Kd.R_mono (Kd.R_far (p := ⟨gb418, 1, none⟩) (Kd.R_far (p := ⟨gb418, 0, none⟩) (Kd.R_types HO415.out BK418.out (by decide)) (fun _ hk => hk.2) (.int .i64 t412)) (fun _ hk => hk.2) (.slice Ao15 t413.length co15)) (fun _ h_ => h_.1))) hb) (blk_below (g := gb410) (o := .cells #[.int .i64 a0_0, .slice A0_1 l0_1.length c0_1] 24 (0, 0)) (by (with_reducible repeat (first | refine blk_drewN ?_ _ | refine blk_drew ?_ | refine blk_alloc ?_ _)); refine blk_far ?_ NB410_418.out _; (with_reducible repeat (first | refine blk_drewN ?_ _ | refine blk_drew ?_ | refine blk_alloc ?_ _)); refine blk_far ?_ NB410_418.out _; exact bx BK410.out) hb) (blk_below (g := gb418) (o := .cells #[.int .i64 t412, .slice Ao15 t413.length co15] 28 (0, 0)) (by (with_reducible repeat (first | refine blk_drewN ?_ _ | refine blk_drew ?_ | refine blk_alloc ?_ _)); refine blk_put (cs := #[.int .i64 t412, .slice none 0 0]) ?_ 1 _ rfl; (with_reducible repeat (first | refine blk_drewN ?_ _ | refine blk_drew ?_ | refine blk_alloc ?_ _)); refine blk_put (cs := #[.int .i64 0, .slice none 0 0]) ?_ 0 _ rfl; exact bx BK418.out) hb) (below_step lb hb); clear HO415 BK410 BK418 HB; obtain ⟨HO415, BK410, BK418, HB⟩ := n_; (try clear hb); (try clear hb2); (try clear hk); (try clear hi)))
  (try simp only [Act.put, sA, sZ, sS])
  go_cut [40] (fun v40 wc => ∃ (kq : Nat) (x40_6 : Bool), v40 = .bool x40_6 ∧ Aside0 (compasslaw09_EulerTours.j0 kq a1 t421 x40_6 a0_0 l0_1 t412 t413 = some r) ∧ Aside0 (kq ≤ k) ∧ Aside0 (Kd.R k51 51 wc w.heap.size (fun _ => True) (.slice Ao15 t413.length co15) t413) ∧ Aside0 (wc.heap[gb410]? = some (.cells #[.int .i64 a0_0, (.slice A0_1 l0_1.length c0_1)] 24 (0, 0))) ∧ Aside0 (wc.heap[gb418]? = some (.cells #[.int .i64 t412, (.slice Ao15 t413.length co15)] 28 (0, 0))) ∧ Aside0 (Below w.heap.size w wc))
  case first =>
   have H := HC7.out; clear HC7
   by_cases c18 : t417 = t421
   ·
    rw [if_pos c18] at H; have c18b0 : (t417 == t421) = true := beq_iff_eq.mpr c18; have c18b1 : (t417 != t421) = false := bne_eq_false_iff_eq.mpr c18; clear c18
    (first | rw [c18b0] | (simp only [i64_w, i32_w]; rw [c18b0]) | skip)
    by_cases c19 : t416 = t420
    ·
     rw [if_pos c19] at H; have c19b0 : (t416 == t420) = true := beq_iff_eq.mpr c19; have c19b1 : (t416 != t420) = false := bne_eq_false_iff_eq.mpr c19; clear c19; have H' := ak H; clear H; have hnb20 := NB418_410.out; have hnc20 := NB410_418.out; have hcz21_0 := bc0 BK418; have hcz21_1 := bc1 BK418; have hfz21_0 := bf BK418 0; have hfz21_1 := bf BK418 1
     go_wp2
     go_meet
     case rel => exact ⟨_, ((t412 != t419)), (by first | rfl | (simp [*]; done)), H', ⟨by first | omega | exact Nat.le_refl _⟩, ⟨rx HO415.out⟩, ⟨bx BK410.out⟩, ⟨bx BK418.out⟩, ⟨lb⟩⟩
    ·
     rw [if_neg c19] at H; have c19b0 : (t416 == t420) = false := beq_eq_false_iff_ne.mpr c19; have c19b1 : (t416 != t420) = true := bne_iff_ne.mpr c19; have H' := ak H; clear H
     go_wp2
     go_meet
     case rel => exact ⟨_, (true), (by first | rfl | (simp [*]; done)), H', ⟨by first | omega | exact Nat.le_refl _⟩, ⟨rx HO415.out⟩, ⟨bx BK410.out⟩, ⟨bx BK418.out⟩, ⟨lb⟩⟩
   ·
    rw [if_neg c18] at H; have c18b0 : (t417 == t421) = false := beq_eq_false_iff_ne.mpr c18; have c18b1 : (t417 != t421) = true := bne_iff_ne.mpr c18
    (first | rw [c18b0] | (simp only [i64_w, i32_w]; rw [c18b0]) | skip)
    have H' := ak H; clear H
    go_wp2
    go_meet
    case rel => exact ⟨_, (true), (by first | rfl | (simp [*]; done)), H', ⟨by first | omega | exact Nat.le_refl _⟩, ⟨rx HO415.out⟩, ⟨bx BK410.out⟩, ⟨bx BK418.out⟩, ⟨lb⟩⟩
  case rest =>
   clear HC7; obtain ⟨kq, x40_6, rfl, HA, HJ6, HO_419001, BK410, BK418, HB⟩ := hcut
   cases kq with
   | zero => exact absurd HA.out (by simp [compasslaw09_EulerTours.j0])
   | succ kj6 =>
    have H := HA.out; clear HA
    simp only [compasslaw09_EulerTours.j0] at H
    by_cases c22 : x40_6 = true
    ·
     subst c22
     have H1 : (some false) = some r := by rw [if_pos rfl] at H; exact H
     clear H; have H := H1; clear H1
     exact absurd ((Option.some.inj H).trans HR_.out) (by decide)
    ·
     replace c22 := Bool.eq_false_iff.mpr c22; subst c22
     have H1 : (if t421 = 0 then (if a0_0 = 0 then (if (t413.length : Int) = 0 then (some true) else ((compasslaw09_plain.f kj6 t412 t413).bind fun t422 => ((compassref09_Covers.f kj6 a0_0 l0_1 t412 t422 a1).bind fun t425 => (some t425)))) else ((compasslaw09_plain.f kj6 t412 t413).bind fun t426 => ((compassref09_Covers.f kj6 a0_0 l0_1 t412 t426 a1).bind fun t429 => (some t429)))) else (some ((t413.length : Int) == 0))) = some r := by rw [if_neg (show ¬ (false = true) by decide)] at H; exact H
     clear H; have H := H1; clear H1
     by_cases c23 : t421 = 0
     ·
      rw [if_pos c23] at H; have c23b0 : (t421 == 0) = true := beq_iff_eq.mpr c23; have c23b1 : (t421 != 0) = false := bne_eq_false_iff_eq.mpr c23; clear c23
      by_cases c24 : a0_0 = 0
      ·
       rw [if_pos c24] at H; have c24b0 : (a0_0 == 0) = true := beq_iff_eq.mpr c24; have c24b1 : (a0_0 != 0) = false := bne_eq_false_iff_eq.mpr c24; clear c24
       by_cases c25 : (t413.length : Int) = 0
       ·
        rw [if_pos c25] at H; have c25b0 : ((t413.length : Int) == 0) = true := beq_iff_eq.mpr c25; have c25b1 : ((t413.length : Int) != 0) = false := bne_eq_false_iff_eq.mpr c25; clear c25; obtain rfl := Option.some.inj H
        try go_wp2
        have n_ := a4 (Kd.R_drew HO_419001.out) (blk_drew BK410.out) (blk_drew BK418.out) (below_drew1 HB.out); clear HO_419001 BK410 BK418 HB; obtain ⟨HO_419001, BK410, BK418, HB⟩ := n_
        refine start_ (n := 19) (S := fun w' => w'.cell? ⟨gb410, 0, none⟩ = some (.int .i64 a0_0) ∧ w'.cell? ⟨gb410, 1, none⟩ = some (.slice A0_1 l0_1.length c0_1) ∧ w'.cell? ⟨gb418, 0, none⟩ = some (.int .i64 t412) ∧ w'.cell? ⟨gb418, 1, none⟩ = some (.slice Ao15 t413.length co15)) (ds := []) #[F, F, F, F, F, F, F, F, F, F, F, F, F, F, F, F, F, F, F] (by kernel_rfl) rfl rfl ⟨(blk_cell BK410.out 0).trans rfl, (blk_cell BK410.out 1).trans rfl, (blk_cell BK418.out 0).trans rfl, (blk_cell BK418.out 1).trans rfl⟩ (fun hHeld => ?_); refine with_tabW compasslaw09_EulerTours.tab9 compasslaw09_EulerTours.bits9 (fun HT_ HW_ => ?_)
        generalize wc.drew = w26 at HO_419001 BK410 BK418 HB hHeld ⊢
        refine pure_ (i := 0) (N := some 47) (v := ?_) (a' := ?_) #[T, F, F, F, F, F, F, F, F, F, F, F, F, F, F, F, F, F, F] rfl rfl (any_of HT_.out (by kernel_rfl)) (fun _ _ _ h => h) (Or.inl ⟨by rfl, ?_⟩) ?_ ?_; rotate_left; intro w'; go_simp; with_reducible rfl; rotate_left; simp only [Act.put, sA, sZ, sS, i64_w, i32_w]; rfl
        refine take_ (i := 1) (N := some 48) (v := ?_) (a' := ?_) #[T, T, F, F, F, F, F, F, F, F, F, F, F, F, F, F, F, F, F] rfl rfl (take_ofW HT_.out HW_.out (by kernel_rfl)) (fun _ _ _ h => h) (Or.inl ⟨by rfl, ?_⟩) hHeld ?_ ?_; rotate_left; rintro w' ⟨s0, s1, s2, s3⟩; go_simp; with_reducible rfl; rotate_left; simp only [Act.put, sA, sZ, sS, i64_w, i32_w]; rfl
        refine pure_ (i := 2) (N := some 49) (v := ?_) (a' := ?_) #[T, T, T, F, F, F, F, F, F, F, F, F, F, F, F, F, F, F, F] rfl rfl (any_of HT_.out (by kernel_rfl)) (fun _ _ _ h => h) (Or.inl ⟨by rfl, ?_⟩) ?_ ?_; rotate_left; intro w'; go_simp; with_reducible rfl; rotate_left; simp only [Act.put, sA, sZ, sS, i64_w, i32_w]; rfl
        refine pure_ (i := 3) (N := some 50) (v := ?_) (a' := ?_) #[T, T, T, T, F, F, F, F, F, F, F, F, F, F, F, F, F, F, F] rfl rfl (any_of HT_.out (by kernel_rfl)) (fun _ _ _ h => h) (Or.inl ⟨by rfl, ?_⟩) ?_ ?_; rotate_left; intro w'; go_simp; with_reducible rfl; rotate_left; simp only [Act.put, sA, sZ, sS, i64_w, i32_w]; rfl
        refine pure_ (i := 4) (N := some 51) (v := ?_) (a' := ?_) #[T, T, T, T, T, F, F, F, F, F, F, F, F, F, F, F, F, F, F] rfl rfl (any_of HT_.out (by kernel_rfl)) (fun _ _ _ h => h) (Or.inl ⟨by rfl, ?_⟩) ?_ ?_; rotate_left; intro w'; go_simp; with_reducible rfl; rotate_left; simp only [Act.put, sA, sZ, sS, i64_w, i32_w]; rfl
        refine take_ (i := 5) (N := some 52) (v := ?_) (a' := ?_) #[T, T, T, T, T, T, F, F, F, F, F, F, F, F, F, F, F, F, F] rfl rfl (take_ofW HT_.out HW_.out (by kernel_rfl)) (fun _ _ _ h => h) (Or.inl ⟨by rfl, ?_⟩) hHeld ?_ ?_; rotate_left; rintro w' ⟨s0, s1, s2, s3⟩; go_simp; with_reducible rfl; rotate_left; simp only [Act.put, sA, sZ, sS, i64_w, i32_w]; rfl
        refine pure_ (i := 6) (N := some 53) (v := ?_) (a' := ?_) #[T, T, T, T, T, T, T, F, F, F, F, F, F, F, F, F, F, F, F] rfl rfl (any_of HT_.out (by kernel_rfl)) (fun _ _ _ h => h) (Or.inl ⟨by rfl, ?_⟩) ?_ ?_; rotate_left; intro w'; go_simp; with_reducible rfl; rotate_left; simp only [Act.put, sA, sZ, sS, i64_w, i32_w]; rfl
        refine pure_ (i := 7) (N := some 54) (v := ?_) (a' := ?_) #[T, T, T, T, T, T, T, T, F, F, F, F, F, F, F, F, F, F, F] rfl rfl (any_of HT_.out (by kernel_rfl)) (fun _ _ _ h => h) (Or.inl ⟨by rfl, ?_⟩) ?_ ?_; rotate_left; intro w'; go_simp; with_reducible rfl; rotate_left; simp only [Act.put, sA, sZ, sS, i64_w, i32_w]; rfl
        refine pure_ (i := 8) (N := some 55) (v := ?_) (a' := ?_) #[T, T, T, T, T, T, T, T, T, F, F, F, F, F, F, F, F, F, F] rfl rfl (any_of HT_.out (by kernel_rfl)) (fun _ _ _ h => h) (Or.inl ⟨by rfl, ?_⟩) ?_ ?_; rotate_left; intro w'; go_simp; with_reducible rfl; rotate_left; simp only [Act.put, sA, sZ, sS, i64_w, i32_w]; rfl
        refine pure_ (i := 9) (N := some 56) (v := ?_) (a' := ?_) #[T, T, T, T, T, T, T, T, T, T, F, F, F, F, F, F, F, F, F] rfl rfl (any_of HT_.out (by kernel_rfl)) (fun _ _ _ h => h) (Or.inl ⟨by rfl, ?_⟩) ?_ ?_; rotate_left; intro w'; go_simp; with_reducible rfl; rotate_left; simp only [Act.put, sA, sZ, sS, i64_w, i32_w]; rfl
        refine pure_ (i := 10) (N := some 57) (v := undef) (a' := ?_) #[T, T, T, T, T, T, T, T, T, T, T, F, F, F, F, F, F, F, F] rfl rfl (any_of HT_.out (by kernel_rfl)) (fun _ _ _ h => h) (Or.inr ⟨by rfl, rfl⟩) ?_ ?_
        rotate_left
        ·
         simp only [Act.put, sA, sZ, sS, i64_w, i32_w]
         rfl
        refine pure_ (i := 11) (N := some 58) (v := undef) (a' := ?_) #[T, T, T, T, T, T, T, T, T, T, T, T, F, F, F, F, F, F, F] rfl rfl (any_of HT_.out (by kernel_rfl)) (fun _ _ _ h => h) (Or.inr ⟨by rfl, rfl⟩) ?_ ?_
        rotate_left
        ·
         simp only [Act.put, sA, sZ, sS, i64_w, i32_w]
         rfl
        refine pure_ (i := 12) (N := some 59) (v := undef) (a' := ?_) #[T, T, T, T, T, T, T, T, T, T, T, T, T, F, F, F, F, F, F] rfl rfl (any_of HT_.out (by kernel_rfl)) (fun _ _ _ h => h) (Or.inr ⟨by rfl, rfl⟩) ?_ ?_
        rotate_left
        ·
         simp only [Act.put, sA, sZ, sS, i64_w, i32_w]
         rfl
        refine pure_ (i := 13) (N := some 60) (v := undef) (a' := ?_) #[T, T, T, T, T, T, T, T, T, T, T, T, T, T, F, F, F, F, F] rfl rfl (any_of HT_.out (by kernel_rfl)) (fun _ _ _ h => h) (Or.inr ⟨by rfl, rfl⟩) ?_ ?_
        rotate_left
        ·
         simp only [Act.put, sA, sZ, sS, i64_w, i32_w]
         rfl
        refine pure_ (i := 14) (N := some 61) (v := undef) (a' := ?_) #[T, T, T, T, T, T, T, T, T, T, T, T, T, T, T, F, F, F, F] rfl rfl (any_of HT_.out (by kernel_rfl)) (fun _ _ _ h => h) (Or.inr ⟨by rfl, rfl⟩) ?_ ?_
        rotate_left
        ·
         simp only [Act.put, sA, sZ, sS, i64_w, i32_w]
         rfl
        refine pure_ (i := 15) (N := some 62) (v := undef) (a' := ?_) #[T, T, T, T, T, T, T, T, T, T, T, T, T, T, T, T, F, F, F] rfl rfl (any_of HT_.out (by kernel_rfl)) (fun _ _ _ h => h) (Or.inr ⟨by rfl, rfl⟩) ?_ ?_
        rotate_left
        ·
         simp only [Act.put, sA, sZ, sS, i64_w, i32_w]
         rfl
        refine pure_ (i := 16) (N := some 63) (v := undef) (a' := ?_) #[T, T, T, T, T, T, T, T, T, T, T, T, T, T, T, T, T, F, F] rfl rfl (any_of HT_.out (by kernel_rfl)) (fun _ _ _ h => h) (Or.inr ⟨by rfl, rfl⟩) ?_ ?_
        rotate_left
        ·
         simp only [Act.put, sA, sZ, sS, i64_w, i32_w]
         rfl
        refine pure_ (i := 17) (N := some 64) (v := ?_) (a' := ?_) #[T, T, T, T, T, T, T, T, T, T, T, T, T, T, T, T, T, T, F] rfl rfl (any_of HT_.out (by kernel_rfl)) (fun _ _ _ h => h) (Or.inl ⟨by rfl, ?_⟩) ?_ ?_; rotate_left; intro w'; go_simp; with_reducible rfl; rotate_left; simp only [Act.put, sA, sZ, sS, i64_w, i32_w]; rfl
        refine pure_ (i := 18) (N := some 4) (v := ?_) (a' := ?_) #[T, T, T, T, T, T, T, T, T, T, T, T, T, T, T, T, T, T, T] rfl rfl (any_of HT_.out (by kernel_rfl)) (fun _ _ _ h => h) (Or.inl ⟨by rfl, ?_⟩) ?_ ?_; rotate_left; intro w'; go_simp; with_reducible rfl; rotate_left; simp only [Act.put, sA, sZ, sS, i64_w, i32_w]; rfl
        refine done_ (done_of HT_.out (by kernel_rfl)) ?_
        try go_wp2
        go_ret
        exact ⟨by first | rfl | (simp [errW_none, errW_some] <;> rfl) | (simp [*, errW_none, errW_some] <;> rfl), lb⟩
       ·
        rw [if_neg c25] at H; have c25b0 : ((t413.length : Int) == 0) = false := beq_eq_false_iff_ne.mpr c25; have c25b1 : ((t413.length : Int) != 0) = true := bne_iff_ne.mpr c25
        have c25b2 : ¬ (t413 = []) := fun h_ => c25 (by rw [h_]; rfl)
        replace H := Option.bind_eq_some_iff.mp H; obtain ⟨t422, A270, H⟩ := H; replace H : ((compassref09_Covers.f kj6 a0_0 l0_1 t412 t422 a1).bind fun t425 => (some t425)) = some r := H; have A27 := ak A270; clear A270; replace H := Option.bind_eq_some_iff.mp H; obtain ⟨t425, A280, H⟩ := H; replace H : (some t425) = some r := H; have A28 := ak A280; clear A280; obtain rfl := Option.some.inj H
        try go_wp2
        have n_ := a4 (Kd.R_drew HO_419001.out) (blk_drew BK410.out) (blk_drew BK418.out) (below_drew1 HB.out); clear HO_419001 BK410 BK418 HB; obtain ⟨HO_419001, BK410, BK418, HB⟩ := n_
        refine start_ (n := 19) (S := fun w' => w'.cell? ⟨gb410, 0, none⟩ = some (.int .i64 a0_0) ∧ w'.cell? ⟨gb410, 1, none⟩ = some (.slice A0_1 l0_1.length c0_1) ∧ w'.cell? ⟨gb418, 0, none⟩ = some (.int .i64 t412) ∧ w'.cell? ⟨gb418, 1, none⟩ = some (.slice Ao15 t413.length co15)) (ds := []) #[F, F, F, F, F, F, F, F, F, F, F, F, F, F, F, F, F, F, F] (by kernel_rfl) rfl rfl ⟨(blk_cell BK410.out 0).trans rfl, (blk_cell BK410.out 1).trans rfl, (blk_cell BK418.out 0).trans rfl, (blk_cell BK418.out 1).trans rfl⟩ (fun hHeld => ?_); refine with_tabW compasslaw09_EulerTours.tab9 compasslaw09_EulerTours.bits9 (fun HT_ HW_ => ?_)
        generalize wc.drew = w29 at HO_419001 BK410 BK418 HB hHeld ⊢
        refine pure_ (i := 0) (N := some 47) (v := ?_) (a' := ?_) #[T, F, F, F, F, F, F, F, F, F, F, F, F, F, F, F, F, F, F] rfl rfl (any_of HT_.out (by kernel_rfl)) (fun _ _ _ h => h) (Or.inl ⟨by rfl, ?_⟩) ?_ ?_; rotate_left; intro w'; go_simp; with_reducible rfl; rotate_left; simp only [Act.put, sA, sZ, sS, i64_w, i32_w]; rfl
        refine take_ (i := 1) (N := some 48) (v := ?_) (a' := ?_) #[T, T, F, F, F, F, F, F, F, F, F, F, F, F, F, F, F, F, F] rfl rfl (take_ofW HT_.out HW_.out (by kernel_rfl)) (fun _ _ _ h => h) (Or.inl ⟨by rfl, ?_⟩) hHeld ?_ ?_; rotate_left; rintro w' ⟨s0, s1, s2, s3⟩; go_simp; with_reducible rfl; rotate_left; simp only [Act.put, sA, sZ, sS, i64_w, i32_w]; rfl
        refine pure_ (i := 2) (N := some 49) (v := ?_) (a' := ?_) #[T, T, T, F, F, F, F, F, F, F, F, F, F, F, F, F, F, F, F] rfl rfl (any_of HT_.out (by kernel_rfl)) (fun _ _ _ h => h) (Or.inl ⟨by rfl, ?_⟩) ?_ ?_; rotate_left; intro w'; go_simp; with_reducible rfl; rotate_left; simp only [Act.put, sA, sZ, sS, i64_w, i32_w]; rfl
        refine pure_ (i := 3) (N := some 50) (v := ?_) (a' := ?_) #[T, T, T, T, F, F, F, F, F, F, F, F, F, F, F, F, F, F, F] rfl rfl (any_of HT_.out (by kernel_rfl)) (fun _ _ _ h => h) (Or.inl ⟨by rfl, ?_⟩) ?_ ?_; rotate_left; intro w'; go_simp; with_reducible rfl; rotate_left; simp only [Act.put, sA, sZ, sS, i64_w, i32_w]; rfl
        refine pure_ (i := 4) (N := some 51) (v := ?_) (a' := ?_) #[T, T, T, T, T, F, F, F, F, F, F, F, F, F, F, F, F, F, F] rfl rfl (any_of HT_.out (by kernel_rfl)) (fun _ _ _ h => h) (Or.inl ⟨by rfl, ?_⟩) ?_ ?_; rotate_left; intro w'; go_simp; with_reducible rfl; rotate_left; simp only [Act.put, sA, sZ, sS, i64_w, i32_w]; rfl
        refine take_ (i := 5) (N := some 52) (v := ?_) (a' := ?_) #[T, T, T, T, T, T, F, F, F, F, F, F, F, F, F, F, F, F, F] rfl rfl (take_ofW HT_.out HW_.out (by kernel_rfl)) (fun _ _ _ h => h) (Or.inl ⟨by rfl, ?_⟩) hHeld ?_ ?_; rotate_left; rintro w' ⟨s0, s1, s2, s3⟩; go_simp; with_reducible rfl; rotate_left; simp only [Act.put, sA, sZ, sS, i64_w, i32_w]; rfl
        refine pure_ (i := 6) (N := some 53) (v := ?_) (a' := ?_) #[T, T, T, T, T, T, T, F, F, F, F, F, F, F, F, F, F, F, F] rfl rfl (any_of HT_.out (by kernel_rfl)) (fun _ _ _ h => h) (Or.inl ⟨by rfl, ?_⟩) ?_ ?_; rotate_left; intro w'; go_simp; with_reducible rfl; rotate_left; simp only [Act.put, sA, sZ, sS, i64_w, i32_w]; rfl
        refine pure_ (i := 7) (N := some 54) (v := ?_) (a' := ?_) #[T, T, T, T, T, T, T, T, F, F, F, F, F, F, F, F, F, F, F] rfl rfl (any_of HT_.out (by kernel_rfl)) (fun _ _ _ h => h) (Or.inl ⟨by rfl, ?_⟩) ?_ ?_; rotate_left; intro w'; go_simp; with_reducible rfl; rotate_left; simp only [Act.put, sA, sZ, sS, i64_w, i32_w]; rfl
        refine pure_ (i := 8) (N := some 55) (v := ?_) (a' := ?_) #[T, T, T, T, T, T, T, T, T, F, F, F, F, F, F, F, F, F, F] rfl rfl (any_of HT_.out (by kernel_rfl)) (fun _ _ _ h => h) (Or.inl ⟨by rfl, ?_⟩) ?_ ?_; rotate_left; intro w'; go_simp; with_reducible rfl; rotate_left; simp only [Act.put, sA, sZ, sS, i64_w, i32_w]; rfl
        refine pure_ (i := 9) (N := some 56) (v := ?_) (a' := ?_) #[T, T, T, T, T, T, T, T, T, T, F, F, F, F, F, F, F, F, F] rfl rfl (any_of HT_.out (by kernel_rfl)) (fun _ _ _ h => h) (Or.inl ⟨by rfl, ?_⟩) ?_ ?_; rotate_left; intro w'; go_simp; with_reducible rfl; rotate_left; simp only [Act.put, sA, sZ, sS, i64_w, i32_w]; rfl
        refine pure_ (i := 11) (N := some 58) (v := ?_) (a' := ?_) #[T, T, T, T, T, T, T, T, T, T, F, T, F, F, F, F, F, F, F] rfl rfl (any_of HT_.out (by kernel_rfl)) (fun _ _ _ h => h) (Or.inl ⟨by rfl, ?_⟩) ?_ ?_; rotate_left; intro w'; go_simp; with_reducible rfl; rotate_left; simp only [Act.put, sA, sZ, sS, i64_w, i32_w]; rfl
        refine pure_ (i := 15) (N := some 62) (v := ?_) (a' := ?_) #[T, T, T, T, T, T, T, T, T, T, F, T, F, F, F, T, F, F, F] rfl rfl (any_of HT_.out (by kernel_rfl)) (fun _ _ _ h => h) (Or.inl ⟨by rfl, ?_⟩) ?_ ?_; rotate_left; intro w'; go_simp; with_reducible rfl; rotate_left; simp only [Act.put, sA, sZ, sS, i64_w, i32_w]; rfl
        refine take_ (i := 10) (N := some 57) (v := ?_) (a' := ?_) #[T, T, T, T, T, T, T, T, T, T, T, T, F, F, F, T, F, F, F] rfl rfl (take_ofW HT_.out HW_.out (by kernel_rfl)) (fun _ _ _ h => h) (Or.inl ⟨by rfl, ?_⟩) hHeld ?_ ?_; rotate_left; rintro w' ⟨s0, s1, s2, s3⟩; go_simp; with_reducible rfl; rotate_left; simp only [Act.put, sA, sZ, sS, i64_w, i32_w]; rfl
        refine take_ (i := 12) (N := some 59) (v := ?_) (a' := ?_) #[T, T, T, T, T, T, T, T, T, T, T, T, T, F, F, T, F, F, F] rfl rfl (take_ofW HT_.out HW_.out (by kernel_rfl)) (fun _ _ _ h => h) (Or.inl ⟨by rfl, ?_⟩) hHeld ?_ ?_; rotate_left; rintro w' ⟨s0, s1, s2, s3⟩; go_simp; with_reducible rfl; rotate_left; simp only [Act.put, sA, sZ, sS, i64_w, i32_w]; rfl
        refine take_ (i := 13) (N := some 60) (v := ?_) (a' := ?_) #[T, T, T, T, T, T, T, T, T, T, T, T, T, T, F, T, F, F, F] rfl rfl (take_ofW HT_.out HW_.out (by kernel_rfl)) (fun _ _ _ h => h) (Or.inl ⟨by rfl, ?_⟩) hHeld ?_ ?_; rotate_left; rintro w' ⟨s0, s1, s2, s3⟩; go_simp; with_reducible rfl; rotate_left; simp only [Act.put, sA, sZ, sS, i64_w, i32_w]; rfl
        refine one_ (i := 14) (N := some 61) #[T, T, T, T, T, T, T, T, T, T, T, T, T, T, T, T, F, F, F] rfl rfl (one_of HT_.out (by kernel_rfl)) (by decide) (fun K hK => ?_)
        refine goes_ Try.func12 (by kernel_rfl) rfl #[.agg #[.int .i64 t412, .slice Ao15 t413.length co15]] (by rfl) rfl rfl (by (try simp only [List.map_toArray, List.map_cons, List.map_nil]); first | done | rfl | (simp only [List.length_drop, List.length_take]; rfl)) ?_
        with_reducible refine (compasslaw09_plain.calls kj6 t412 _ _ t413 t422 _ ?side1 ?side2 A27.out).mono ?_
        (case side1 => repeat (first | exact (Kd.R_reads' HO_419001.out).2.2 | (with_reducible refine Kd.C_alloc ?_ _) | (with_reducible refine Kd.C_drewN ?_ _) | (with_reducible refine Kd.C_drew ?_)))
        (case side2 => exact (Kd.R_reads' HO_419001.out).2.1)
        rintro e w30 ⟨v423, rfl, ho0, hb⟩
        refine ⟨_, rfl, ?_⟩
        have n_ := a5 (Kd.R_below (rx HO_419001.out) hb) (Kd.R_lower ho0 (below_size lb)) (blk_below (bx BK410.out) hb) (blk_below (bx BK418.out) hb) (below_step lb hb); clear HO_419001 BK410 BK418 HB; obtain ⟨HO_419001, HO424, BK410, BK418, HB⟩ := n_
        (try clear hb)
        (try clear hb2)
        (try clear hk)
        (try clear hi)
        (try clear ho0)
        obtain ⟨Ao31, co31, eo31⟩ := Kd.R_slice HO424.out
        (first | subst eo31 | (injection eo31 with f1_ f2_ f3_; have f4_ := f1_.symm; have f5_ := f3_.symm; clear f1_ f2_ f3_; subst f4_; subst f5_))
        refine hK.out _ _ ⟨(blk_cell BK410.out 0).trans rfl, (blk_cell BK410.out 1).trans rfl, (blk_cell BK418.out 0).trans rfl, (blk_cell BK418.out 1).trans rfl⟩ (fun hHeld => ?_)
        clear hK K
        refine norm_ (a' := ?_) ?_ ?_
        rotate_left
        ·
         show Act.put _ (some 61) _ = _
         simp only [Act.put, sA, sZ, sS, i64_w, i32_w]
         rfl
        refine one_ (i := 16) (N := some 63) #[T, T, T, T, T, T, T, T, T, T, T, T, T, T, T, T, T, F, F] rfl rfl (one_of HT_.out (by kernel_rfl)) (by decide) (fun K hK => ?_)
        refine goes_ Try.func11 (by kernel_rfl) rfl #[.agg #[.int .i64 a0_0, .slice A0_1 l0_1.length c0_1], .int .i64 t412, .slice Ao31 t422.length co31, .bool a1] (by rfl) rfl rfl (by (try simp only [List.map_toArray, List.map_cons, List.map_nil]); first | done | rfl | (simp only [List.length_drop, List.length_take]; rfl)) ?_
        with_reducible refine (compassref09_Covers.calls kj6 a0_0 _ _ l0_1 t412 _ _ t422 a1 t425 _ ?side1 ?side2 ?side3 ?side4 A28.out).mono ?_
        (case side1 => exact Kd.C_below HR0_1.out lb)
        (case side2 => exact HC0_1.out)
        (case side3 => repeat (first | exact (Kd.R_reads' HO424.out).2.2 | (with_reducible refine Kd.C_alloc ?_ _) | (with_reducible refine Kd.C_drewN ?_ _) | (with_reducible refine Kd.C_drew ?_)))
        (case side4 => exact (Kd.R_reads' HO424.out).2.1)
        rintro e w32 ⟨rfl, hb⟩
        refine ⟨_, rfl, ?_⟩
        have n_ := a5 (Kd.R_below (rx HO_419001.out) hb) (Kd.R_below (rx HO424.out) hb) (blk_below (bx BK410.out) hb) (blk_below (bx BK418.out) hb) (below_step lb hb); clear HO_419001 HO424 BK410 BK418 HB; obtain ⟨HO_419001, HO424, BK410, BK418, HB⟩ := n_
        (try clear hb)
        (try clear hb2)
        (try clear hk)
        (try clear hi)
        refine hK.out _ _ ⟨(blk_cell BK410.out 0).trans rfl, (blk_cell BK410.out 1).trans rfl, (blk_cell BK418.out 0).trans rfl, (blk_cell BK418.out 1).trans rfl⟩ (fun hHeld => ?_)
        clear hK K
        refine norm_ (a' := ?_) ?_ ?_
        rotate_left
        ·
         show Act.put _ (some 63) _ = _
         simp only [Act.put, sA, sZ, sS, i64_w, i32_w]
         rfl
        refine pure_ (i := 17) (N := some 64) (v := ?_) (a' := ?_) #[T, T, T, T, T, T, T, T, T, T, T, T, T, T, T, T, T, T, F] rfl rfl (any_of HT_.out (by kernel_rfl)) (fun _ _ _ h => h) (Or.inl ⟨by rfl, ?_⟩) ?_ ?_; rotate_left; intro w'; go_simp; with_reducible rfl; rotate_left; simp only [Act.put, sA, sZ, sS, i64_w, i32_w]; rfl
        refine pure_ (i := 18) (N := some 4) (v := ?_) (a' := ?_) #[T, T, T, T, T, T, T, T, T, T, T, T, T, T, T, T, T, T, T] rfl rfl (any_of HT_.out (by kernel_rfl)) (fun _ _ _ h => h) (Or.inl ⟨by rfl, ?_⟩) ?_ ?_; rotate_left; intro w'; go_simp; with_reducible rfl; rotate_left; simp only [Act.put, sA, sZ, sS, i64_w, i32_w]; rfl
        refine done_ (done_of HT_.out (by kernel_rfl)) ?_
        try go_wp2
        go_ret
        exact ⟨by first | rfl | (simp [errW_none, errW_some] <;> rfl) | (simp [*, errW_none, errW_some] <;> rfl), lb⟩
      ·
       rw [if_neg c24] at H; have c24b0 : (a0_0 == 0) = false := beq_eq_false_iff_ne.mpr c24; have c24b1 : (a0_0 != 0) = true := bne_iff_ne.mpr c24; replace H := Option.bind_eq_some_iff.mp H; obtain ⟨t426, A330, H⟩ := H; replace H : ((compassref09_Covers.f kj6 a0_0 l0_1 t412 t426 a1).bind fun t429 => (some t429)) = some r := H; have A33 := ak A330; clear A330; replace H := Option.bind_eq_some_iff.mp H; obtain ⟨t429, A340, H⟩ := H; replace H : (some t429) = some r := H; have A34 := ak A340; clear A340; obtain rfl := Option.some.inj H
       try go_wp2
       have n_ := a4 (Kd.R_drew HO_419001.out) (blk_drew BK410.out) (blk_drew BK418.out) (below_drew1 HB.out); clear HO_419001 BK410 BK418 HB; obtain ⟨HO_419001, BK410, BK418, HB⟩ := n_
       refine start_ (n := 19) (S := fun w' => w'.cell? ⟨gb410, 0, none⟩ = some (.int .i64 a0_0) ∧ w'.cell? ⟨gb410, 1, none⟩ = some (.slice A0_1 l0_1.length c0_1) ∧ w'.cell? ⟨gb418, 0, none⟩ = some (.int .i64 t412) ∧ w'.cell? ⟨gb418, 1, none⟩ = some (.slice Ao15 t413.length co15)) (ds := []) #[F, F, F, F, F, F, F, F, F, F, F, F, F, F, F, F, F, F, F] (by kernel_rfl) rfl rfl ⟨(blk_cell BK410.out 0).trans rfl, (blk_cell BK410.out 1).trans rfl, (blk_cell BK418.out 0).trans rfl, (blk_cell BK418.out 1).trans rfl⟩ (fun hHeld => ?_); refine with_tabW compasslaw09_EulerTours.tab9 compasslaw09_EulerTours.bits9 (fun HT_ HW_ => ?_)
       generalize wc.drew = w35 at HO_419001 BK410 BK418 HB hHeld ⊢
       refine pure_ (i := 0) (N := some 47) (v := ?_) (a' := ?_) #[T, F, F, F, F, F, F, F, F, F, F, F, F, F, F, F, F, F, F] rfl rfl (any_of HT_.out (by kernel_rfl)) (fun _ _ _ h => h) (Or.inl ⟨by rfl, ?_⟩) ?_ ?_; rotate_left; intro w'; go_simp; with_reducible rfl; rotate_left; simp only [Act.put, sA, sZ, sS, i64_w, i32_w]; rfl
       refine take_ (i := 1) (N := some 48) (v := ?_) (a' := ?_) #[T, T, F, F, F, F, F, F, F, F, F, F, F, F, F, F, F, F, F] rfl rfl (take_ofW HT_.out HW_.out (by kernel_rfl)) (fun _ _ _ h => h) (Or.inl ⟨by rfl, ?_⟩) hHeld ?_ ?_; rotate_left; rintro w' ⟨s0, s1, s2, s3⟩; go_simp; with_reducible rfl; rotate_left; simp only [Act.put, sA, sZ, sS, i64_w, i32_w]; rfl
       refine pure_ (i := 2) (N := some 49) (v := ?_) (a' := ?_) #[T, T, T, F, F, F, F, F, F, F, F, F, F, F, F, F, F, F, F] rfl rfl (any_of HT_.out (by kernel_rfl)) (fun _ _ _ h => h) (Or.inl ⟨by rfl, ?_⟩) ?_ ?_; rotate_left; intro w'; go_simp; with_reducible rfl; rotate_left; simp only [Act.put, sA, sZ, sS, i64_w, i32_w]; rfl
       refine pure_ (i := 3) (N := some 50) (v := ?_) (a' := ?_) #[T, T, T, T, F, F, F, F, F, F, F, F, F, F, F, F, F, F, F] rfl rfl (any_of HT_.out (by kernel_rfl)) (fun _ _ _ h => h) (Or.inl ⟨by rfl, ?_⟩) ?_ ?_; rotate_left; intro w'; go_simp; with_reducible rfl; rotate_left; simp only [Act.put, sA, sZ, sS, i64_w, i32_w]; rfl
       refine pure_ (i := 4) (N := some 51) (v := undef) (a' := ?_) #[T, T, T, T, T, F, F, F, F, F, F, F, F, F, F, F, F, F, F] rfl rfl (any_of HT_.out (by kernel_rfl)) (fun _ _ _ h => h) (Or.inr ⟨by rfl, rfl⟩) ?_ ?_
       rotate_left
       ·
        simp only [Act.put, sA, sZ, sS, i64_w, i32_w]
        rfl
       refine pure_ (i := 5) (N := some 52) (v := undef) (a' := ?_) #[T, T, T, T, T, T, F, F, F, F, F, F, F, F, F, F, F, F, F] rfl rfl (any_of HT_.out (by kernel_rfl)) (fun _ _ _ h => h) (Or.inr ⟨by rfl, rfl⟩) ?_ ?_
       rotate_left
       ·
        simp only [Act.put, sA, sZ, sS, i64_w, i32_w]
        rfl
       refine pure_ (i := 6) (N := some 53) (v := undef) (a' := ?_) #[T, T, T, T, T, T, T, F, F, F, F, F, F, F, F, F, F, F, F] rfl rfl (any_of HT_.out (by kernel_rfl)) (fun _ _ _ h => h) (Or.inr ⟨by rfl, rfl⟩) ?_ ?_
       rotate_left
       ·
        simp only [Act.put, sA, sZ, sS, i64_w, i32_w]
        rfl
       refine pure_ (i := 7) (N := some 54) (v := undef) (a' := ?_) #[T, T, T, T, T, T, T, T, F, F, F, F, F, F, F, F, F, F, F] rfl rfl (any_of HT_.out (by kernel_rfl)) (fun _ _ _ h => h) (Or.inr ⟨by rfl, rfl⟩) ?_ ?_
       rotate_left
       ·
        simp only [Act.put, sA, sZ, sS, i64_w, i32_w]
        rfl
       refine pure_ (i := 8) (N := some 55) (v := ?_) (a' := ?_) #[T, T, T, T, T, T, T, T, T, F, F, F, F, F, F, F, F, F, F] rfl rfl (any_of HT_.out (by kernel_rfl)) (fun _ _ _ h => h) (Or.inl ⟨by rfl, ?_⟩) ?_ ?_; rotate_left; intro w'; go_simp; with_reducible rfl; rotate_left; simp only [Act.put, sA, sZ, sS, i64_w, i32_w]; rfl
       refine pure_ (i := 9) (N := some 56) (v := ?_) (a' := ?_) #[T, T, T, T, T, T, T, T, T, T, F, F, F, F, F, F, F, F, F] rfl rfl (any_of HT_.out (by kernel_rfl)) (fun _ _ _ h => h) (Or.inl ⟨by rfl, ?_⟩) ?_ ?_; rotate_left; intro w'; go_simp; with_reducible rfl; rotate_left; simp only [Act.put, sA, sZ, sS, i64_w, i32_w]; rfl
       refine pure_ (i := 11) (N := some 58) (v := ?_) (a' := ?_) #[T, T, T, T, T, T, T, T, T, T, F, T, F, F, F, F, F, F, F] rfl rfl (any_of HT_.out (by kernel_rfl)) (fun _ _ _ h => h) (Or.inl ⟨by rfl, ?_⟩) ?_ ?_; rotate_left; intro w'; go_simp; with_reducible rfl; rotate_left; simp only [Act.put, sA, sZ, sS, i64_w, i32_w]; rfl
       refine pure_ (i := 15) (N := some 62) (v := ?_) (a' := ?_) #[T, T, T, T, T, T, T, T, T, T, F, T, F, F, F, T, F, F, F] rfl rfl (any_of HT_.out (by kernel_rfl)) (fun _ _ _ h => h) (Or.inl ⟨by rfl, ?_⟩) ?_ ?_; rotate_left; intro w'; go_simp; with_reducible rfl; rotate_left; simp only [Act.put, sA, sZ, sS, i64_w, i32_w]; rfl
       refine take_ (i := 10) (N := some 57) (v := ?_) (a' := ?_) #[T, T, T, T, T, T, T, T, T, T, T, T, F, F, F, T, F, F, F] rfl rfl (take_ofW HT_.out HW_.out (by kernel_rfl)) (fun _ _ _ h => h) (Or.inl ⟨by rfl, ?_⟩) hHeld ?_ ?_; rotate_left; rintro w' ⟨s0, s1, s2, s3⟩; go_simp; with_reducible rfl; rotate_left; simp only [Act.put, sA, sZ, sS, i64_w, i32_w]; rfl
       refine take_ (i := 12) (N := some 59) (v := ?_) (a' := ?_) #[T, T, T, T, T, T, T, T, T, T, T, T, T, F, F, T, F, F, F] rfl rfl (take_ofW HT_.out HW_.out (by kernel_rfl)) (fun _ _ _ h => h) (Or.inl ⟨by rfl, ?_⟩) hHeld ?_ ?_; rotate_left; rintro w' ⟨s0, s1, s2, s3⟩; go_simp; with_reducible rfl; rotate_left; simp only [Act.put, sA, sZ, sS, i64_w, i32_w]; rfl
       refine take_ (i := 13) (N := some 60) (v := ?_) (a' := ?_) #[T, T, T, T, T, T, T, T, T, T, T, T, T, T, F, T, F, F, F] rfl rfl (take_ofW HT_.out HW_.out (by kernel_rfl)) (fun _ _ _ h => h) (Or.inl ⟨by rfl, ?_⟩) hHeld ?_ ?_; rotate_left; rintro w' ⟨s0, s1, s2, s3⟩; go_simp; with_reducible rfl; rotate_left; simp only [Act.put, sA, sZ, sS, i64_w, i32_w]; rfl
       refine one_ (i := 14) (N := some 61) #[T, T, T, T, T, T, T, T, T, T, T, T, T, T, T, T, F, F, F] rfl rfl (one_of HT_.out (by kernel_rfl)) (by decide) (fun K hK => ?_)
       refine goes_ Try.func12 (by kernel_rfl) rfl #[.agg #[.int .i64 t412, .slice Ao15 t413.length co15]] (by rfl) rfl rfl (by (try simp only [List.map_toArray, List.map_cons, List.map_nil]); first | done | rfl | (simp only [List.length_drop, List.length_take]; rfl)) ?_
       with_reducible refine (compasslaw09_plain.calls kj6 t412 _ _ t413 t426 _ ?side1 ?side2 A33.out).mono ?_
       (case side1 => repeat (first | exact (Kd.R_reads' HO_419001.out).2.2 | (with_reducible refine Kd.C_alloc ?_ _) | (with_reducible refine Kd.C_drewN ?_ _) | (with_reducible refine Kd.C_drew ?_)))
       (case side2 => exact (Kd.R_reads' HO_419001.out).2.1)
       rintro e w36 ⟨v427, rfl, ho0, hb⟩
       refine ⟨_, rfl, ?_⟩
       have n_ := a5 (Kd.R_below (rx HO_419001.out) hb) (Kd.R_lower ho0 (below_size lb)) (blk_below (bx BK410.out) hb) (blk_below (bx BK418.out) hb) (below_step lb hb); clear HO_419001 BK410 BK418 HB; obtain ⟨HO_419001, HO428, BK410, BK418, HB⟩ := n_
       (try clear hb)
       (try clear hb2)
       (try clear hk)
       (try clear hi)
       (try clear ho0)
       obtain ⟨Ao37, co37, eo37⟩ := Kd.R_slice HO428.out
       (first | subst eo37 | (injection eo37 with f1_ f2_ f3_; have f4_ := f1_.symm; have f5_ := f3_.symm; clear f1_ f2_ f3_; subst f4_; subst f5_))
       refine hK.out _ _ ⟨(blk_cell BK410.out 0).trans rfl, (blk_cell BK410.out 1).trans rfl, (blk_cell BK418.out 0).trans rfl, (blk_cell BK418.out 1).trans rfl⟩ (fun hHeld => ?_)
       clear hK K
       refine norm_ (a' := ?_) ?_ ?_
       rotate_left
       ·
        show Act.put _ (some 61) _ = _
        simp only [Act.put, sA, sZ, sS, i64_w, i32_w]
        rfl
       refine one_ (i := 16) (N := some 63) #[T, T, T, T, T, T, T, T, T, T, T, T, T, T, T, T, T, F, F] rfl rfl (one_of HT_.out (by kernel_rfl)) (by decide) (fun K hK => ?_)
       refine goes_ Try.func11 (by kernel_rfl) rfl #[.agg #[.int .i64 a0_0, .slice A0_1 l0_1.length c0_1], .int .i64 t412, .slice Ao37 t426.length co37, .bool a1] (by rfl) rfl rfl (by (try simp only [List.map_toArray, List.map_cons, List.map_nil]); first | done | rfl | (simp only [List.length_drop, List.length_take]; rfl)) ?_
       with_reducible refine (compassref09_Covers.calls kj6 a0_0 _ _ l0_1 t412 _ _ t426 a1 t429 _ ?side1 ?side2 ?side3 ?side4 A34.out).mono ?_
       (case side1 => exact Kd.C_below HR0_1.out lb)
       (case side2 => exact HC0_1.out)
       (case side3 => repeat (first | exact (Kd.R_reads' HO428.out).2.2 | (with_reducible refine Kd.C_alloc ?_ _) | (with_reducible refine Kd.C_drewN ?_ _) | (with_reducible refine Kd.C_drew ?_)))
       (case side4 => exact (Kd.R_reads' HO428.out).2.1)
       rintro e w38 ⟨rfl, hb⟩
       refine ⟨_, rfl, ?_⟩
       have n_ := a5 (Kd.R_below (rx HO_419001.out) hb) (Kd.R_below (rx HO428.out) hb) (blk_below (bx BK410.out) hb) (blk_below (bx BK418.out) hb) (below_step lb hb); clear HO_419001 HO428 BK410 BK418 HB; obtain ⟨HO_419001, HO428, BK410, BK418, HB⟩ := n_
       (try clear hb)
       (try clear hb2)
       (try clear hk)
       (try clear hi)
       refine hK.out _ _ ⟨(blk_cell BK410.out 0).trans rfl, (blk_cell BK410.out 1).trans rfl, (blk_cell BK418.out 0).trans rfl, (blk_cell BK418.out 1).trans rfl⟩ (fun hHeld => ?_)
       clear hK K
       refine norm_ (a' := ?_) ?_ ?_
       rotate_left
       ·
        show Act.put _ (some 63) _ = _
        simp only [Act.put, sA, sZ, sS, i64_w, i32_w]
        rfl
       refine pure_ (i := 17) (N := some 64) (v := ?_) (a' := ?_) #[T, T, T, T, T, T, T, T, T, T, T, T, T, T, T, T, T, T, F] rfl rfl (any_of HT_.out (by kernel_rfl)) (fun _ _ _ h => h) (Or.inl ⟨by rfl, ?_⟩) ?_ ?_; rotate_left; intro w'; go_simp; with_reducible rfl; rotate_left; simp only [Act.put, sA, sZ, sS, i64_w, i32_w]; rfl
       refine pure_ (i := 18) (N := some 4) (v := ?_) (a' := ?_) #[T, T, T, T, T, T, T, T, T, T, T, T, T, T, T, T, T, T, T] rfl rfl (any_of HT_.out (by kernel_rfl)) (fun _ _ _ h => h) (Or.inl ⟨by rfl, ?_⟩) ?_ ?_; rotate_left; intro w'; go_simp; with_reducible rfl; rotate_left; simp only [Act.put, sA, sZ, sS, i64_w, i32_w]; rfl
       refine done_ (done_of HT_.out (by kernel_rfl)) ?_
       try go_wp2
       go_ret
       exact ⟨by first | rfl | (simp [errW_none, errW_some] <;> rfl) | (simp [*, errW_none, errW_some] <;> rfl), lb⟩
     ·
      rw [if_neg c23] at H; have c23b0 : (t421 == 0) = false := beq_eq_false_iff_ne.mpr c23; have c23b1 : (t421 != 0) = true := bne_iff_ne.mpr c23; obtain rfl := Option.some.inj H; have hnb39 := NB418_410.out; have hnc39 := NB410_418.out; have hcz40_0 := bc0 BK418; have hcz40_1 := bc1 BK418; have hfz40_0 := bf BK418 0; have hfz40_1 := bf BK418 1
      go_wp2
      go_ret
      exact ⟨by first | rfl | (simp [errW_none, errW_some] <;> rfl) | (simp [*, errW_none, errW_some] <;> rfl), lb⟩
 ·
  replace c4 := Bool.eq_false_iff.mpr c4; subst c4
  have H1 : (some false) = some r := by rw [if_neg (show ¬ (false = true) by decide)] at H; exact H
  clear H; have H := H1; clear H1
  exact absurd ((Option.some.inj H).trans HR_.out) (by decide)

end Go.Proofs.Ytplbkggdnonfbaa.Q
