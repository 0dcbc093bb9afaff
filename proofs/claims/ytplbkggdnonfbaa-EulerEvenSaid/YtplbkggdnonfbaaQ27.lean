import Derived.Test.YtplbkggdnonfbaaQ0
import Derived.Test.YtplbkggdnonfbaaQ11
import Derived.Test.YtplbkggdnonfbaaQ13
import Derived.Test.YtplbkggdnonfbaaQ14
import Derived.Test.YtplbkggdnonfbaaQ15
namespace Go.Proofs.Ytplbkggdnonfbaa.Q
open Go.RowKit Go.Proofs.YtplbkggdnonfbaaW.PrintWords Go.Proofs.YtplbkggdnonfbaaW.PrintLast Go.Proofs.YtplbkggdnonfbaaW.PrintMore
attribute [local go_sem] max2_int min2_int max_two min_two max_three min_three max_four min_four   -- for this text's walks alone
set_option linter.unusedVariables false
set_option linter.unusedSimpArgs false

/-! ### compasslaw09_EulerEven: function 5 -/
mutual
def compasslaw09_EulerEven.j0 : Nat → Bool → Int → Int → Bool → Int → List (S45) → Int → List (S51) → Option (Bool)
  | 0, _, _, _, _, _, _, _, _ => none
  | k + 1, x1, x6, x7, x32, x446000, x446001, x454000, x454001 => if x32 = true then (some ((x454001.length : Int) == 0)) else (if x7 = 0 then (if x446000 > 0 then ((euler_Covers.f k x446000 x446001 x454000 x454001 x1).bind fun t454 => (compasslaw09_EulerEven.j1 k x1 x6 x7 (!t454) x446000 x446001 x454000 x454001)) else (compasslaw09_EulerEven.j1 k x1 x6 x7 false x446000 x446001 x454000 x454001)) else (compasslaw09_EulerEven.j1 k x1 x6 x7 false x446000 x446001 x454000 x454001))
def compasslaw09_EulerEven.j1 : Nat → Bool → Int → Int → Bool → Int → List (S45) → Int → List (S51) → Option (Bool)
  | 0, _, _, _, _, _, _, _, _ => none
  | k + 1, x1, x6, x7, x50, x446000, x446001, x454000, x454001 => if x50 = true then (some false) else (if x7 = 91 then ((compassref09_Degrees.f k x446000 x446001 x6).bind fun bt455 => (if (wrap64 (bt455.1 + bt455.2)) > 0 then (some ((x454001.length : Int) == 0)) else (some false))) else (compasslaw09_EulerEven.l0 k x1 x6 x7 0 x446000 x446001))
def compasslaw09_EulerEven.l0 : Nat → Bool → Int → Int → Int → Int → List (S45) → Option (Bool)
  | 0, _, _, _, _, _, _ => none
  | k + 1, x1, x6, x7, x10, x446000, x446001 => if x10 < x446000 then ((compassref09_Degrees.f k x446000 x446001 x10).bind fun bt457 => (if x1 = true then (if bt457.1 = bt457.2 then (compasslaw09_EulerEven.l0 k x1 x6 x7 (wrap64 (x10 + 1)) x446000 x446001) else (if x7 = 90 then (some (x6 == x10)) else (some false))) else (if (Int.tmod (wrap64 (bt457.1 + bt457.2)) 2) = 1 then (if x7 = 90 then (some (x6 == x10)) else (some false)) else (compasslaw09_EulerEven.l0 k x1 x6 x7 (wrap64 (x10 + 1)) x446000 x446001)))) else (some (x7 == 0))
end
def compasslaw09_EulerEven.f (k : Nat) (a0_0 : Int) (l0_1 : List (S45)) (a1 : Bool) : Option (Bool) := (compasslaw09_awake.f k).bind fun t446 => (if t446 = true then ((euler_Tour.f k a0_0 l0_1 a1).bind fun bt447 => (if bt447.2.2.2 = 0 then (compasslaw09_EulerEven.j0 k a1 bt447.2.2.1 bt447.2.2.2 false a0_0 l0_1 bt447.1 bt447.2.1) else (if bt447.2.2.2 = 90 then (compasslaw09_EulerEven.j0 k a1 bt447.2.2.1 bt447.2.2.2 false a0_0 l0_1 bt447.1 bt447.2.1) else (compasslaw09_EulerEven.j0 k a1 bt447.2.2.1 bt447.2.2.2 (bt447.2.2.2 != 91) a0_0 l0_1 bt447.1 bt447.2.1)))) else (some false))
theorem compasslaw09_EulerEven.mono_l : ∀ k, (∀ y0 y1 y2 y3 y4 y5 y6 y7, LeO (compasslaw09_EulerEven.j0 k y0 y1 y2 y3 y4 y5 y6 y7) (compasslaw09_EulerEven.j0 (k + 1) y0 y1 y2 y3 y4 y5 y6 y7)) ∧ (∀ y0 y1 y2 y3 y4 y5 y6 y7, LeO (compasslaw09_EulerEven.j1 k y0 y1 y2 y3 y4 y5 y6 y7) (compasslaw09_EulerEven.j1 (k + 1) y0 y1 y2 y3 y4 y5 y6 y7)) ∧ (∀ y0 y1 y2 y3 y4 y5, LeO (compasslaw09_EulerEven.l0 k y0 y1 y2 y3 y4 y5) (compasslaw09_EulerEven.l0 (k + 1) y0 y1 y2 y3 y4 y5))
  | 0 => ⟨fun _ _ _ _ _ _ _ _ r h => by simp [compasslaw09_EulerEven.j0] at h, fun _ _ _ _ _ _ _ _ r h => by simp [compasslaw09_EulerEven.j1] at h, fun _ _ _ _ _ _ r h => by simp [compasslaw09_EulerEven.l0] at h⟩
  | k + 1 => by
    obtain ⟨ih0, ih1, ih2⟩ := compasslaw09_EulerEven.mono_l k
    refine ⟨?_, ?_, ?_⟩
    · intro y0 y1 y2 y3 y4 y5 y6 y7
      unfold compasslaw09_EulerEven.j0
      repeat' first
      | (with_reducible exact ih0 _ _ _ _ _ _ _ _)
      | (with_reducible exact ih1 _ _ _ _ _ _ _ _)
      | (with_reducible exact ih2 _ _ _ _ _ _)
      | (with_reducible exact compasslaw09_awake.mono _)
      | (with_reducible exact compassref09_Degrees.mono _ _ _ _)
      | (with_reducible exact euler_Covers.mono _ _ _ _ _ _)
      | (with_reducible exact euler_Tour.mono _ _ _ _)
      | (with_reducible exact LeO.refl _)
      | (with_reducible exact LeO.none _)
      | (with_reducible refine LeO.ite ?_ ?_)
      | (with_reducible refine LeO.bind ?_ (fun _ => ?_))
      | exact ih0 _ _ _ _ _ _ _ _
      | exact ih1 _ _ _ _ _ _ _ _
      | exact ih2 _ _ _ _ _ _
      | exact compasslaw09_awake.mono _
      | exact compassref09_Degrees.mono _ _ _ _
      | exact euler_Covers.mono _ _ _ _ _ _
      | exact euler_Tour.mono _ _ _ _
      | exact LeO.none _
      | refine LeO.ite ?_ ?_
      | refine LeO.bind ?_ (fun _ => ?_)
    · intro y0 y1 y2 y3 y4 y5 y6 y7
      unfold compasslaw09_EulerEven.j1
      repeat' first
      | (with_reducible exact ih0 _ _ _ _ _ _ _ _)
      | (with_reducible exact ih1 _ _ _ _ _ _ _ _)
      | (with_reducible exact ih2 _ _ _ _ _ _)
      | (with_reducible exact compasslaw09_awake.mono _)
      | (with_reducible exact compassref09_Degrees.mono _ _ _ _)
      | (with_reducible exact euler_Covers.mono _ _ _ _ _ _)
      | (with_reducible exact euler_Tour.mono _ _ _ _)
      | (with_reducible exact LeO.refl _)
      | (with_reducible exact LeO.none _)
      | (with_reducible refine LeO.ite ?_ ?_)
      | (with_reducible refine LeO.bind ?_ (fun _ => ?_))
      | exact ih0 _ _ _ _ _ _ _ _
      | exact ih1 _ _ _ _ _ _ _ _
      | exact ih2 _ _ _ _ _ _
      | exact compasslaw09_awake.mono _
      | exact compassref09_Degrees.mono _ _ _ _
      | exact euler_Covers.mono _ _ _ _ _ _
      | exact euler_Tour.mono _ _ _ _
      | exact LeO.none _
      | refine LeO.ite ?_ ?_
      | refine LeO.bind ?_ (fun _ => ?_)
    · intro y0 y1 y2 y3 y4 y5
      unfold compasslaw09_EulerEven.l0
      repeat' first
      | (with_reducible exact ih0 _ _ _ _ _ _ _ _)
      | (with_reducible exact ih1 _ _ _ _ _ _ _ _)
      | (with_reducible exact ih2 _ _ _ _ _ _)
      | (with_reducible exact compasslaw09_awake.mono _)
      | (with_reducible exact compassref09_Degrees.mono _ _ _ _)
      | (with_reducible exact euler_Covers.mono _ _ _ _ _ _)
      | (with_reducible exact euler_Tour.mono _ _ _ _)
      | (with_reducible exact LeO.refl _)
      | (with_reducible exact LeO.none _)
      | (with_reducible refine LeO.ite ?_ ?_)
      | (with_reducible refine LeO.bind ?_ (fun _ => ?_))
      | exact ih0 _ _ _ _ _ _ _ _
      | exact ih1 _ _ _ _ _ _ _ _
      | exact ih2 _ _ _ _ _ _
      | exact compasslaw09_awake.mono _
      | exact compassref09_Degrees.mono _ _ _ _
      | exact euler_Covers.mono _ _ _ _ _ _
      | exact euler_Tour.mono _ _ _ _
      | exact LeO.none _
      | refine LeO.ite ?_ ?_
      | refine LeO.bind ?_ (fun _ => ?_)
theorem compasslaw09_EulerEven.mono : ∀ a0 a1 a2 k, LeO (compasslaw09_EulerEven.f k a0 a1 a2) (compasslaw09_EulerEven.f (k + 1) a0 a1 a2) := by
  intro a0 a1 a2 k
  obtain ⟨ih0, ih1, ih2⟩ := compasslaw09_EulerEven.mono_l k
  unfold compasslaw09_EulerEven.f
  repeat' first
      | (with_reducible exact ih0 _ _ _ _ _ _ _ _)
      | (with_reducible exact ih1 _ _ _ _ _ _ _ _)
      | (with_reducible exact ih2 _ _ _ _ _ _)
      | (with_reducible exact compasslaw09_awake.mono _)
      | (with_reducible exact compassref09_Degrees.mono _ _ _ _)
      | (with_reducible exact euler_Covers.mono _ _ _ _ _ _)
      | (with_reducible exact euler_Tour.mono _ _ _ _)
      | (with_reducible exact LeO.refl _)
      | (with_reducible exact LeO.none _)
      | (with_reducible refine LeO.ite ?_ ?_)
      | (with_reducible refine LeO.bind ?_ (fun _ => ?_))
      | exact ih0 _ _ _ _ _ _ _ _
      | exact ih1 _ _ _ _ _ _ _ _
      | exact ih2 _ _ _ _ _ _
      | exact compasslaw09_awake.mono _
      | exact compassref09_Degrees.mono _ _ _ _
      | exact euler_Covers.mono _ _ _ _ _ _
      | exact euler_Tour.mono _ _ _ _
      | exact LeO.none _
      | refine LeO.ite ?_ ?_
      | refine LeO.bind ?_ (fun _ => ?_)
set_option maxHeartbeats 8000000 in
set_option maxRecDepth 100000 in
theorem compasslaw09_EulerEven.calls (k : Nat) (a0_0 : Int) (A0_1 : Option Addr) (c0_1 : Nat) (l0_1 : List (S45)) (a1 : Bool) (r : Bool) (w : World) (hr0_1 : Kd.C k45 w A0_1 l0_1.length l0_1) (hc0_1 : l0_1.length ≤ c0_1) (hr_ : r = true) (h : compasslaw09_EulerEven.f k a0_0 l0_1 a1 = some r) :
    Calls Try.prog 5 #[.agg #[.int .i64 a0_0, .slice A0_1 l0_1.length c0_1], .bool a1] w fun e w' => e = .returned (.bool r) ∧ Below w.heap.size w w' := by
 have hu24 := Try.underlying24; have hu28 := Try.underlying28; have HR0_1 := ak hr0_1; have HC0_1 := ak hc0_1; clear hr0_1 hc0_1; have HB := ak (Below.refl w.heap.size w); have HR_ := ak hr_; clear hr_; have H : ((compasslaw09_awake.f k).bind fun t446 => (if t446 = true then ((euler_Tour.f k a0_0 l0_1 a1).bind fun bt447 => (if bt447.2.2.2 = 0 then (compasslaw09_EulerEven.j0 k a1 bt447.2.2.1 bt447.2.2.2 false a0_0 l0_1 bt447.1 bt447.2.1) else (if bt447.2.2.2 = 90 then (compasslaw09_EulerEven.j0 k a1 bt447.2.2.1 bt447.2.2.2 false a0_0 l0_1 bt447.1 bt447.2.1) else (compasslaw09_EulerEven.j0 k a1 bt447.2.2.1 bt447.2.2.2 (bt447.2.2.2 != 91) a0_0 l0_1 bt447.1 bt447.2.1)))) else (some false))) = some r := h; clear h; replace H := Option.bind_eq_some_iff.mp H; obtain ⟨t446, A30, H⟩ := H; replace H : (if t446 = true then ((euler_Tour.f k a0_0 l0_1 a1).bind fun bt447 => (if bt447.2.2.2 = 0 then (compasslaw09_EulerEven.j0 k a1 bt447.2.2.1 bt447.2.2.2 false a0_0 l0_1 bt447.1 bt447.2.1) else (if bt447.2.2.2 = 90 then (compasslaw09_EulerEven.j0 k a1 bt447.2.2.1 bt447.2.2.2 false a0_0 l0_1 bt447.1 bt447.2.1) else (compasslaw09_EulerEven.j0 k a1 bt447.2.2.1 bt447.2.2.2 (bt447.2.2.2 != 91) a0_0 l0_1 bt447.1 bt447.2.1)))) else (some false)) = some r := H; have A3 := ak A30; clear A30
 by_cases c4 : t446 = true
 ·
  subst c4
  have H1 : ((euler_Tour.f k a0_0 l0_1 a1).bind fun bt447 => (if bt447.2.2.2 = 0 then (compasslaw09_EulerEven.j0 k a1 bt447.2.2.1 bt447.2.2.2 false a0_0 l0_1 bt447.1 bt447.2.1) else (if bt447.2.2.2 = 90 then (compasslaw09_EulerEven.j0 k a1 bt447.2.2.1 bt447.2.2.2 false a0_0 l0_1 bt447.1 bt447.2.1) else (compasslaw09_EulerEven.j0 k a1 bt447.2.2.1 bt447.2.2.2 (bt447.2.2.2 != 91) a0_0 l0_1 bt447.1 bt447.2.1)))) = some r := by rw [if_pos rfl] at H; exact H
  clear H; have H := H1; clear H1; replace H := Option.bind_eq_some_iff.mp H; obtain ⟨⟨t447, t448, t451, t452⟩, A50, H⟩ := H; replace H : (if t452 = 0 then (compasslaw09_EulerEven.j0 k a1 t451 t452 false a0_0 l0_1 t447 t448) else (if t452 = 90 then (compasslaw09_EulerEven.j0 k a1 t451 t452 false a0_0 l0_1 t447 t448) else (compasslaw09_EulerEven.j0 k a1 t451 t452 (t452 != 91) a0_0 l0_1 t447 t448))) = some r := H; have A5 := ak A50; clear A50; have HC6 := ak H; clear H
  go_enter Try.func5, Try.ntmps5
  go_upto_region 4 with (first | ((with_reducible refine gate_dst (N := 2) rfl ?_); (try (refine gate_guard (by rfl) ?_; dsimp only)); refine box_event ?hg (N := 2) ?hd (cs := #[.int .i64 a0_0, .slice A0_1 l0_1.length c0_1]) (t := 24) ?hr ?_; (case hd => rfl); (case hg => rfl); (case hr => first | (go_simp; done) | (go_simp; rfl)); intro gb445 hg w7 hbox hb; have n_ := a4 (below_step lb hb) hbox (gw w hg) (gw w hg); clear HB; obtain ⟨HB, BK445, GW445, GE445⟩ := n_; clear hb hbox hg) | ((with_reducible refine gate_callee (f := 8) rfl ?_); refine goesZ (some 14) rfl rfl Try.func8 (by kernel_rfl) rfl #[] rfl ?_; (with_reducible refine (compasslaw09_awake.calls k  true _ A3.out).mono ?_); rintro e w8 ⟨rfl, hb⟩; refine ⟨_, rfl, ?_⟩; have n_ := a2 (blk_below (bx BK445.out) hb) (below_step lb hb); clear BK445 HB; obtain ⟨BK445, HB⟩ := n_; (try clear hb); (try clear hb2); (try clear hk); (try clear hi); have hcz9_0 := bc0 BK445; have hcz9_1 := bc1 BK445; have hfz9_0 := bf BK445 0; have hfz9_1 := bf BK445 1) | ((with_reducible refine gate_callee (f := 9) rfl ?_); refine goesZ (some 19) rfl rfl Try.func9 (by kernel_rfl) rfl #[.agg #[.int .i64 a0_0, .slice A0_1 l0_1.length c0_1], .bool a1] rfl ?_; (with_reducible refine (euler_Tour.calls k a0_0 _ _ l0_1 a1 t447 t448 t451 t452 _ ?side1 ?side2 A5.out).mono ?_); (case side1 => exact Kd.C_below HR0_1.out lb); (case side2 => exact HC0_1.out); rintro e w10 ⟨v449, rfl, ho0, hb⟩; refine ⟨_, rfl, ?_⟩; have n_ := a3 (Kd.R_lower ho0 (below_size lb)) (blk_below (bx BK445.out) hb) (below_step lb hb); clear BK445 HB; obtain ⟨HO450, BK445, HB⟩ := n_; (try clear hb); (try clear hb2); (try clear hk); (try clear hi); (try clear ho0)) | ((with_reducible refine gate_dst (N := 5) rfl ?_); (try (refine gate_guard (by rfl) ?_; dsimp only)); refine box_event ?hg (N := 5) ?hd (cs := #[.int .i64 0, .slice none 0 0]) (t := 28) ?hr ?_; (case hd => rfl); (case hg => rfl); (case hr => first | (go_simp; done) | (go_simp; rfl)); intro gb453 hg w11 hbox hb; have n_ := a8 (Kd.R_below (rx HO450.out) hb) (blk_below (bx BK445.out) hb) (below_step lb hb) hbox (gw w hg) (gw w hg) (nl hg BK445) (nr hg BK445); clear HO450 BK445 HB; obtain ⟨HO450, BK445, HB, BK453, GW453, GE453, NB445_453, NB453_445⟩ := n_; clear hb hbox hg; have hnb12 := NB453_445.out; have hnc12 := NB445_453.out; have hcz13_0 := bc0 BK453; have hcz13_1 := bc1 BK453; have hfz13_0 := bf BK453 0; have hfz13_1 := bf BK453 1; obtain ⟨Ao14, co14, eo14⟩ := Kd.R_slice HO450.out; subst eo14))
  (try simp only [Act.put, sA, sZ, sS])
  go_cut [32] (fun v32 wc => ∃ (kq : Nat) (x32_5 : Bool), v32 = .bool x32_5 ∧ Aside0 (compasslaw09_EulerEven.j0 kq a1 t451 t452 x32_5 a0_0 l0_1 t447 t448 = some r) ∧ Aside0 (kq ≤ k) ∧ Aside0 (Kd.R k51 51 wc w.heap.size (fun _ => True) (.slice Ao14 t448.length co14) t448) ∧ Aside0 (wc.heap[gb445]? = some (.cells #[.int .i64 a0_0, (.slice A0_1 l0_1.length c0_1)] 24 (0, 0))) ∧ Aside0 (wc.heap[gb453]? = some (.cells #[.int .i64 t447, (.slice Ao14 t448.length co14)] 28 (0, 0))) ∧ Aside0 (Below w.heap.size w wc))
  case first =>
   have H := HC6.out; clear HC6
   by_cases c15 : t452 = 0
   ·
    rw [if_pos c15] at H; have c15b0 : (t452 == 0) = true := beq_iff_eq.mpr c15; have c15b1 : (t452 != 0) = false := bne_eq_false_iff_eq.mpr c15; clear c15
    (first | rw [c15b0] | (simp only [i64_w, i32_w]; rw [c15b0]) | skip)
    have H' := ak H; clear H
    go_wp2
    go_meet
    case rel => exact ⟨_, (false), (by first | rfl | (simp [*]; done)), H', ⟨by first | omega | exact Nat.le_refl _⟩, ⟨by exact rx (Kd.R_mono (Kd.R_far (p := ⟨gb453, 1, none⟩) (Kd.R_far (p := ⟨gb453, 0, none⟩) (Kd.R_types HO450.out BK453.out (by decide)) (fun _ hk => hk.2) (.int .i64 t447)) (fun _ hk => hk.2) (.slice Ao14 t448.length co14)) (fun _ hk => trivial))⟩, ⟨by (with_reducible repeat (first | refine blk_drewN ?_ _ | refine blk_drew ?_ | refine blk_alloc ?_ _)); refine blk_far ?_ NB445_453.out _; (with_reducible repeat (first | refine blk_drewN ?_ _ | refine blk_drew ?_ | refine blk_alloc ?_ _)); refine blk_far ?_ NB445_453.out _; exact bx BK445.out⟩, ⟨by (with_reducible repeat (first | refine blk_drewN ?_ _ | refine blk_drew ?_ | refine blk_alloc ?_ _)); refine blk_put (cs := #[.int .i64 t447, .slice none 0 0]) ?_ 1 _ rfl; (with_reducible repeat (first | refine blk_drewN ?_ _ | refine blk_drew ?_ | refine blk_alloc ?_ _)); refine blk_put (cs := #[.int .i64 0, .slice none 0 0]) ?_ 0 _ rfl; exact bx BK453.out⟩, ⟨lb⟩⟩
   ·
    rw [if_neg c15] at H; have c15b0 : (t452 == 0) = false := beq_eq_false_iff_ne.mpr c15; have c15b1 : (t452 != 0) = true := bne_iff_ne.mpr c15
    (first | rw [c15b0] | (simp only [i64_w, i32_w]; rw [c15b0]) | skip)
    by_cases c16 : t452 = 90
    ·
     rw [if_pos c16] at H; have c16b0 : (t452 == 90) = true := beq_iff_eq.mpr c16; have c16b1 : (t452 != 90) = false := bne_eq_false_iff_eq.mpr c16; clear c16; have H' := ak H; clear H
     go_wp2
     go_meet
     case rel => exact ⟨_, (false), (by first | rfl | (simp [*]; done)), H', ⟨by first | omega | exact Nat.le_refl _⟩, ⟨by exact rx (Kd.R_mono (Kd.R_far (p := ⟨gb453, 1, none⟩) (Kd.R_far (p := ⟨gb453, 0, none⟩) (Kd.R_types HO450.out BK453.out (by decide)) (fun _ hk => hk.2) (.int .i64 t447)) (fun _ hk => hk.2) (.slice Ao14 t448.length co14)) (fun _ hk => trivial))⟩, ⟨by (with_reducible repeat (first | refine blk_drewN ?_ _ | refine blk_drew ?_ | refine blk_alloc ?_ _)); refine blk_far ?_ NB445_453.out _; (with_reducible repeat (first | refine blk_drewN ?_ _ | refine blk_drew ?_ | refine blk_alloc ?_ _)); refine blk_far ?_ NB445_453.out _; exact bx BK445.out⟩, ⟨by (with_reducible repeat (first | refine blk_drewN ?_ _ | refine blk_drew ?_ | refine blk_alloc ?_ _)); refine blk_put (cs := #[.int .i64 t447, .slice none 0 0]) ?_ 1 _ rfl; (with_reducible repeat (first | refine blk_drewN ?_ _ | refine blk_drew ?_ | refine blk_alloc ?_ _)); refine blk_put (cs := #[.int .i64 0, .slice none 0 0]) ?_ 0 _ rfl; exact bx BK453.out⟩, ⟨lb⟩⟩
    ·
     rw [if_neg c16] at H; have c16b0 : (t452 == 90) = false := beq_eq_false_iff_ne.mpr c16; have c16b1 : (t452 != 90) = true := bne_iff_ne.mpr c16; have H' := ak H; clear H
     go_wp2
     go_meet
     case rel => exact ⟨_, ((t452 != 91)), (by first | rfl | (simp [*]; done)), H', ⟨by first | omega | exact Nat.le_refl _⟩, ⟨by exact rx (Kd.R_mono (Kd.R_far (p := ⟨gb453, 1, none⟩) (Kd.R_far (p := ⟨gb453, 0, none⟩) (Kd.R_types HO450.out BK453.out (by decide)) (fun _ hk => hk.2) (.int .i64 t447)) (fun _ hk => hk.2) (.slice Ao14 t448.length co14)) (fun _ hk => trivial))⟩, ⟨by (with_reducible repeat (first | refine blk_drewN ?_ _ | refine blk_drew ?_ | refine blk_alloc ?_ _)); refine blk_far ?_ NB445_453.out _; (with_reducible repeat (first | refine blk_drewN ?_ _ | refine blk_drew ?_ | refine blk_alloc ?_ _)); refine blk_far ?_ NB445_453.out _; exact bx BK445.out⟩, ⟨by (with_reducible repeat (first | refine blk_drewN ?_ _ | refine blk_drew ?_ | refine blk_alloc ?_ _)); refine blk_put (cs := #[.int .i64 t447, .slice none 0 0]) ?_ 1 _ rfl; (with_reducible repeat (first | refine blk_drewN ?_ _ | refine blk_drew ?_ | refine blk_alloc ?_ _)); refine blk_put (cs := #[.int .i64 0, .slice none 0 0]) ?_ 0 _ rfl; exact bx BK453.out⟩, ⟨lb⟩⟩
  case rest =>
   clear HC6; obtain ⟨kq, x32_5, rfl, HA, HJ5, HO_454001, BK445, BK453, HB⟩ := hcut
   cases kq with
   | zero => exact absurd HA.out (by simp [compasslaw09_EulerEven.j0])
   | succ kj5 =>
    have H := HA.out; clear HA
    simp only [compasslaw09_EulerEven.j0] at H
    by_cases c17 : x32_5 = true
    ·
     subst c17
     have H1 : (some ((t448.length : Int) == 0)) = some r := by rw [if_pos rfl] at H; exact H
     clear H; have H := H1; clear H1; obtain rfl := Option.some.inj H; have hnb18 := NB453_445.out; have hnc18 := NB445_453.out; have hcz19_0 := bc0 BK453; have hcz19_1 := bc1 BK453; have hfz19_0 := bf BK453 0; have hfz19_1 := bf BK453 1
     go_wp2
     go_ret
     exact ⟨by first | rfl | (simp [errW_none, errW_some] <;> rfl) | (simp [*, errW_none, errW_some] <;> rfl), lb⟩
    ·
     replace c17 := Bool.eq_false_iff.mpr c17; subst c17
     have H1 : (if t452 = 0 then (if a0_0 > 0 then ((euler_Covers.f kj5 a0_0 l0_1 t447 t448 a1).bind fun t454 => (compasslaw09_EulerEven.j1 kj5 a1 t451 t452 (!t454) a0_0 l0_1 t447 t448)) else (compasslaw09_EulerEven.j1 kj5 a1 t451 t452 false a0_0 l0_1 t447 t448)) else (compasslaw09_EulerEven.j1 kj5 a1 t451 t452 false a0_0 l0_1 t447 t448)) = some r := by rw [if_neg (show ¬ (false = true) by decide)] at H; exact H
     clear H; have H := H1; clear H1; have HC20 := ak H; clear H
     go_upto_region 6 with (fail)
     go_cut [50] (fun v50 wc => ∃ (kq : Nat) (x50_19 : Bool), v50 = .bool x50_19 ∧ Aside0 (compasslaw09_EulerEven.j1 kq a1 t451 t452 x50_19 a0_0 l0_1 t447 t448 = some r) ∧ Aside0 (kq ≤ kj5) ∧ Aside0 (Kd.R k51 51 wc w.heap.size (fun _ => True) (.slice Ao14 t448.length co14) t448) ∧ Aside0 (wc.heap[gb445]? = some (.cells #[.int .i64 a0_0, (.slice A0_1 l0_1.length c0_1)] 24 (0, 0))) ∧ Aside0 (wc.heap[gb453]? = some (.cells #[.int .i64 t447, (.slice Ao14 t448.length co14)] 28 (0, 0))) ∧ Aside0 (Below w.heap.size w wc))
     case first =>
      have H := HC20.out; clear HC20
      by_cases c21 : t452 = 0
      ·
       rw [if_pos c21] at H; have c21b0 : (t452 == 0) = true := beq_iff_eq.mpr c21; have c21b1 : (t452 != 0) = false := bne_eq_false_iff_eq.mpr c21; clear c21
       (first | rw [c21b0] | (simp only [i64_w, i32_w]; rw [c21b0]) | skip)
       by_cases c22 : a0_0 > 0
       ·
        rw [if_pos c22] at H; have c22b0 := decide_eq_true c22; clear c22; replace H := Option.bind_eq_some_iff.mp H; obtain ⟨t454, A230, H⟩ := H; replace H : (compasslaw09_EulerEven.j1 kj5 a1 t451 t452 (!t454) a0_0 l0_1 t447 t448) = some r := H; have A23 := ak A230; clear A230; have H' := ak H; clear H; have hnb24 := NB445_453.out; have hnc24 := NB453_445.out; have hcz25_0 := bc0 BK445; have hcz25_1 := bc1 BK445; have hfz25_0 := bf BK445 0; have hfz25_1 := bf BK445 1; have hcz26_0 := bc0 BK453; have hcz26_1 := bc1 BK453; have hfz26_0 := bf BK453 0; have hfz26_1 := bf BK453 1
        go_wp2_with (first | (go_at_call 15; (with_reducible refine (euler_Covers.calls kj5 a0_0 _ _ l0_1 t447 _ _ t448 a1 t454 _ ?side1 ?side2 ?side3 ?side4 A23.out).mono ?_); (case side1 => exact Kd.C_below HR0_1.out lb); (case side2 => exact HC0_1.out); (case side3 => repeat (first | exact (Kd.R_reads' HO_454001.out).2.2 | (with_reducible refine Kd.C_alloc ?_ _) | (with_reducible refine Kd.C_drewN ?_ _) | (with_reducible refine Kd.C_drew ?_))); (case side4 => exact (Kd.R_reads' HO_454001.out).2.1); rintro e w27 ⟨rfl, hb⟩; have n_ := a4 (Kd.R_below (rx HO_454001.out) hb) (blk_below (bx BK445.out) hb) (blk_below (bx BK453.out) hb) (below_step lb hb); clear HO_454001 BK445 BK453 HB; obtain ⟨HO_454001, BK445, BK453, HB⟩ := n_; (try clear hb); (try clear hb2); (try clear hk); (try clear hi)))
        go_meet
        case rel => exact ⟨_, (!t454), (by first | rfl | (simp [*]; done)), H', ⟨by have := HJ5.out; first | omega | exact Nat.le_refl _⟩, ⟨rx HO_454001.out⟩, ⟨bx BK445.out⟩, ⟨bx BK453.out⟩, ⟨lb⟩⟩
       ·
        rw [if_neg c22] at H; have c22b0 : decide (0 < a0_0) = false := decide_eq_false c22; clear c22; have H' := ak H; clear H; have hnb28 := NB445_453.out; have hnc28 := NB453_445.out; have hcz29_0 := bc0 BK445; have hcz29_1 := bc1 BK445; have hfz29_0 := bf BK445 0; have hfz29_1 := bf BK445 1
        go_wp2
        go_meet
        case rel => exact ⟨_, (false), (by first | rfl | (simp [*]; done)), H', ⟨by have := HJ5.out; first | omega | exact Nat.le_refl _⟩, ⟨rx HO_454001.out⟩, ⟨bx BK445.out⟩, ⟨bx BK453.out⟩, ⟨lb⟩⟩
      ·
       rw [if_neg c21] at H; have c21b0 : (t452 == 0) = false := beq_eq_false_iff_ne.mpr c21; have c21b1 : (t452 != 0) = true := bne_iff_ne.mpr c21
       (first | rw [c21b0] | (simp only [i64_w, i32_w]; rw [c21b0]) | skip)
       have H' := ak H; clear H
       go_wp2
       go_meet
       case rel => exact ⟨_, (false), (by first | rfl | (simp [*]; done)), H', ⟨by have := HJ5.out; first | omega | exact Nat.le_refl _⟩, ⟨rx HO_454001.out⟩, ⟨bx BK445.out⟩, ⟨bx BK453.out⟩, ⟨lb⟩⟩
     case rest =>
      clear HC20; obtain ⟨kq, x50_19, rfl, HA, HJ19, HO_454001, BK445, BK453, HB⟩ := hcut
      cases kq with
      | zero => exact absurd HA.out (by simp [compasslaw09_EulerEven.j1])
      | succ kj19 =>
       have H := HA.out; clear HA
       simp only [compasslaw09_EulerEven.j1] at H
       by_cases c30 : x50_19 = true
       ·
        subst c30
        have H1 : (some false) = some r := by rw [if_pos rfl] at H; exact H
        clear H; have H := H1; clear H1
        exact absurd ((Option.some.inj H).trans HR_.out) (by decide)
       ·
        replace c30 := Bool.eq_false_iff.mpr c30; subst c30
        have H1 : (if t452 = 91 then ((compassref09_Degrees.f kj19 a0_0 l0_1 t451).bind fun bt455 => (if (wrap64 (bt455.1 + bt455.2)) > 0 then (some ((t448.length : Int) == 0)) else (some false))) else (compasslaw09_EulerEven.l0 kj19 a1 t451 t452 0 a0_0 l0_1)) = some r := by rw [if_neg (show ¬ (false = true) by decide)] at H; exact H
        clear H; have H := H1; clear H1
        by_cases c31 : t452 = 91
        ·
         rw [if_pos c31] at H; have c31b0 : (t452 == 91) = true := beq_iff_eq.mpr c31; have c31b1 : (t452 != 91) = false := bne_eq_false_iff_eq.mpr c31; clear c31; replace H := Option.bind_eq_some_iff.mp H; obtain ⟨⟨t455, t456⟩, A320, H⟩ := H; replace H : (if (wrap64 (t455 + t456)) > 0 then (some ((t448.length : Int) == 0)) else (some false)) = some r := H; have A32 := ak A320; clear A320
         by_cases c33 : (wrap64 (t455 + t456)) > 0
         rotate_left
         ·
          rw [if_neg c33] at H; have c33b0 : decide (0 < (wrap64 (t455 + t456))) = false := decide_eq_false c33; clear c33
          exact absurd ((Option.some.inj H).trans HR_.out) (by decide)
         rw [if_pos c33] at H; have c33b0 := decide_eq_true c33; clear c33; obtain rfl := Option.some.inj H; have hnb34 := NB445_453.out; have hnc34 := NB453_445.out; have hcz35_0 := bc0 BK445; have hcz35_1 := bc1 BK445; have hfz35_0 := bf BK445 0; have hfz35_1 := bf BK445 1
         go_wp2_with (first | ((with_reducible refine gate_callee (f := 16) rfl ?_); refine goesZ (some 56) rfl rfl Try.func16 (by kernel_rfl) rfl #[.agg #[.int .i64 a0_0, .slice A0_1 l0_1.length c0_1], .int .i64 t451] rfl ?_; (with_reducible refine (compassref09_Degrees.calls kj19 a0_0 _ _ l0_1 t451 t455 t456 _ ?side1 ?side2 A32.out).mono ?_); (case side1 => exact Kd.C_below HR0_1.out lb); (case side2 => exact HC0_1.out); rintro e w36 ⟨rfl, hb⟩; refine ⟨_, rfl, ?_⟩; have n_ := a4 (Kd.R_below (rx HO_454001.out) hb) (blk_below (bx BK445.out) hb) (blk_below (bx BK453.out) hb) (below_step lb hb); clear HO_454001 BK445 BK453 HB; obtain ⟨HO_454001, BK445, BK453, HB⟩ := n_; (try clear hb); (try clear hb2); (try clear hk); (try clear hi); have hcz37_0 := bc0 BK453; have hcz37_1 := bc1 BK453; have hfz37_0 := bf BK453 0; have hfz37_1 := bf BK453 1))
         go_ret
         exact ⟨by first | rfl | (simp [errW_none, errW_some] <;> rfl) | (simp [*, errW_none, errW_some] <;> rfl), lb⟩
        ·
         rw [if_neg c31] at H; have c31b0 : (t452 == 91) = false := beq_eq_false_iff_ne.mpr c31; have c31b1 : (t452 != 91) = true := bne_iff_ne.mpr c31; have H' := ak H; clear H
         go_wp2
         go_loopg [10] kj19 (fun kq v10 w' => ∃ (x10_3 : Int), v10 = .int .i64 x10_3 ∧ Aside0 (compasslaw09_EulerEven.l0 kq a1 t451 t452 x10_3 a0_0 l0_1 = some r) ∧ Aside0 (kq ≤ kj19) ∧ Aside0 (Kd.R k51 51 w' w.heap.size (fun _ => True) (.slice Ao14 t448.length co14) t448) ∧ Aside0 (w'.heap[gb445]? = some (.cells #[.int .i64 a0_0, (.slice A0_1 l0_1.length c0_1)] 24 (0, 0))) ∧ Aside0 (w'.heap[gb453]? = some (.cells #[.int .i64 t447, (.slice Ao14 t448.length co14)] 28 (0, 0))) ∧ Aside0 (Below w.heap.size w w'))
         case atStart => exact ⟨(0), (by first | rfl | (simp [*]; done)), H', ⟨Nat.le_refl _⟩, ⟨rx HO_454001.out⟩, ⟨bx BK445.out⟩, ⟨bx BK453.out⟩, ⟨lb⟩⟩
         case round =>
          clear H'; obtain ⟨x10_3, rfl, HA, HK3, HO_454001, BK445, BK453, HB⟩ := hrel
          cases gk with
          | zero => exact absurd HA.out (by simp [compasslaw09_EulerEven.l0])
          | succ k3 =>
           have H := HA.out; clear HA
           simp only [compasslaw09_EulerEven.l0] at H
           by_cases c38 : x10_3 < a0_0
           ·
            rw [if_pos c38] at H; have c38b0 := decide_eq_true c38; clear c38; replace H := Option.bind_eq_some_iff.mp H; obtain ⟨⟨t457, t458⟩, A390, H⟩ := H; replace H : (if a1 = true then (if t457 = t458 then (compasslaw09_EulerEven.l0 k3 a1 t451 t452 (wrap64 (x10_3 + 1)) a0_0 l0_1) else (if t452 = 90 then (some (t451 == x10_3)) else (some false))) else (if (Int.tmod (wrap64 (t457 + t458)) 2) = 1 then (if t452 = 90 then (some (t451 == x10_3)) else (some false)) else (compasslaw09_EulerEven.l0 k3 a1 t451 t452 (wrap64 (x10_3 + 1)) a0_0 l0_1))) = some r := H; have A39 := ak A390; clear A390
            by_cases c40 : a1 = true
            ·
             subst c40
             have H1 : (if t457 = t458 then (compasslaw09_EulerEven.l0 k3 true t451 t452 (wrap64 (x10_3 + 1)) a0_0 l0_1) else (if t452 = 90 then (some (t451 == x10_3)) else (some false))) = some r := by rw [if_pos rfl] at H; exact H
             clear H; have H := H1; clear H1
             by_cases c41 : t457 = t458
             ·
              rw [if_pos c41] at H; have c41b0 : (t457 == t458) = true := beq_iff_eq.mpr c41; have c41b1 : (t457 != t458) = false := bne_eq_false_iff_eq.mpr c41; clear c41; have H' := ak H; clear H; have hnb42 := NB445_453.out; have hnc42 := NB453_445.out; have hcz43_0 := bc0 BK445; have hcz43_1 := bc1 BK445; have hfz43_0 := bf BK445 0; have hfz43_1 := bf BK445 1
              go_wp2_with (first | ((with_reducible refine gate_callee (f := 16) rfl ?_); refine goesZ (some 78) rfl rfl Try.func16 (by kernel_rfl) rfl #[.agg #[.int .i64 a0_0, .slice A0_1 l0_1.length c0_1], .int .i64 x10_3] rfl ?_; (with_reducible refine (compassref09_Degrees.calls k3 a0_0 _ _ l0_1 x10_3 t457 t458 _ ?side1 ?side2 A39.out).mono ?_); (case side1 => exact Kd.C_below HR0_1.out lb); (case side2 => exact HC0_1.out); rintro e w44 ⟨rfl, hb⟩; refine ⟨_, rfl, ?_⟩; have n_ := a4 (Kd.R_below (rx HO_454001.out) hb) (blk_below (bx BK445.out) hb) (blk_below (bx BK453.out) hb) (below_step lb hb); clear HO_454001 BK445 BK453 HB; obtain ⟨HO_454001, BK445, BK453, HB⟩ := n_; (try clear hb); (try clear hb2); (try clear hk); (try clear hi)))
              go_roundg k3
              case measure => have := HJ5.out; have := HJ19.out; have := HK3.out; omega
              case rel => exact ⟨(wrap64 (x10_3 + 1)), (by first | rfl | (simp [*]; done)), H', ⟨by have := HJ5.out; have := HJ19.out; have := HK3.out; omega⟩, ⟨rx HO_454001.out⟩, ⟨bx BK445.out⟩, ⟨bx BK453.out⟩, ⟨lb⟩⟩
             ·
              rw [if_neg c41] at H; have c41b0 : (t457 == t458) = false := beq_eq_false_iff_ne.mpr c41; have c41b1 : (t457 != t458) = true := bne_iff_ne.mpr c41
              by_cases c45 : t452 = 90
              rotate_left
              ·
               rw [if_neg c45] at H; have c45b0 : (t452 == 90) = false := beq_eq_false_iff_ne.mpr c45; have c45b1 : (t452 != 90) = true := bne_iff_ne.mpr c45
               exact absurd ((Option.some.inj H).trans HR_.out) (by decide)
              rw [if_pos c45] at H; have c45b0 : (t452 == 90) = true := beq_iff_eq.mpr c45; have c45b1 : (t452 != 90) = false := bne_eq_false_iff_eq.mpr c45; clear c45; obtain rfl := Option.some.inj H; have hnb46 := NB445_453.out; have hnc46 := NB453_445.out; have hcz47_0 := bc0 BK445; have hcz47_1 := bc1 BK445; have hfz47_0 := bf BK445 0; have hfz47_1 := bf BK445 1
              go_wp2_with (first | ((with_reducible refine gate_callee (f := 16) rfl ?_); refine goesZ (some 78) rfl rfl Try.func16 (by kernel_rfl) rfl #[.agg #[.int .i64 a0_0, .slice A0_1 l0_1.length c0_1], .int .i64 x10_3] rfl ?_; (with_reducible refine (compassref09_Degrees.calls k3 a0_0 _ _ l0_1 x10_3 t457 t458 _ ?side1 ?side2 A39.out).mono ?_); (case side1 => exact Kd.C_below HR0_1.out lb); (case side2 => exact HC0_1.out); rintro e w48 ⟨rfl, hb⟩; refine ⟨_, rfl, ?_⟩; have n_ := a4 (Kd.R_below (rx HO_454001.out) hb) (blk_below (bx BK445.out) hb) (blk_below (bx BK453.out) hb) (below_step lb hb); clear HO_454001 BK445 BK453 HB; obtain ⟨HO_454001, BK445, BK453, HB⟩ := n_; (try clear hb); (try clear hb2); (try clear hk); (try clear hi)))
              go_ret
              exact ⟨by first | rfl | (simp [errW_none, errW_some] <;> rfl) | (simp [*, errW_none, errW_some] <;> rfl), lb⟩
            ·
             replace c40 := Bool.eq_false_iff.mpr c40; subst c40
             have H1 : (if (Int.tmod (wrap64 (t457 + t458)) 2) = 1 then (if t452 = 90 then (some (t451 == x10_3)) else (some false)) else (compasslaw09_EulerEven.l0 k3 false t451 t452 (wrap64 (x10_3 + 1)) a0_0 l0_1)) = some r := by rw [if_neg (show ¬ (false = true) by decide)] at H; exact H
             clear H; have H := H1; clear H1
             by_cases c49 : (Int.tmod (wrap64 (t457 + t458)) 2) = 1
             ·
              rw [if_pos c49] at H; have c49b0 : ((Int.tmod (wrap64 (t457 + t458)) 2) == 1) = true := beq_iff_eq.mpr c49; have c49b1 : ((Int.tmod (wrap64 (t457 + t458)) 2) != 1) = false := bne_eq_false_iff_eq.mpr c49; clear c49
              by_cases c50 : t452 = 90
              rotate_left
              ·
               rw [if_neg c50] at H; have c50b0 : (t452 == 90) = false := beq_eq_false_iff_ne.mpr c50; have c50b1 : (t452 != 90) = true := bne_iff_ne.mpr c50
               exact absurd ((Option.some.inj H).trans HR_.out) (by decide)
              rw [if_pos c50] at H; have c50b0 : (t452 == 90) = true := beq_iff_eq.mpr c50; have c50b1 : (t452 != 90) = false := bne_eq_false_iff_eq.mpr c50; clear c50; obtain rfl := Option.some.inj H; have hnb51 := NB445_453.out; have hnc51 := NB453_445.out; have hcz52_0 := bc0 BK445; have hcz52_1 := bc1 BK445; have hfz52_0 := bf BK445 0; have hfz52_1 := bf BK445 1
              go_wp2_with (first | ((with_reducible refine gate_callee (f := 16) rfl ?_); refine goesZ (some 78) rfl rfl Try.func16 (by kernel_rfl) rfl #[.agg #[.int .i64 a0_0, .slice A0_1 l0_1.length c0_1], .int .i64 x10_3] rfl ?_; (with_reducible refine (compassref09_Degrees.calls k3 a0_0 _ _ l0_1 x10_3 t457 t458 _ ?side1 ?side2 A39.out).mono ?_); (case side1 => exact Kd.C_below HR0_1.out lb); (case side2 => exact HC0_1.out); rintro e w53 ⟨rfl, hb⟩; refine ⟨_, rfl, ?_⟩; have n_ := a4 (Kd.R_below (rx HO_454001.out) hb) (blk_below (bx BK445.out) hb) (blk_below (bx BK453.out) hb) (below_step lb hb); clear HO_454001 BK445 BK453 HB; obtain ⟨HO_454001, BK445, BK453, HB⟩ := n_; (try clear hb); (try clear hb2); (try clear hk); (try clear hi)))
              go_ret
              exact ⟨by first | rfl | (simp [errW_none, errW_some] <;> rfl) | (simp [*, errW_none, errW_some] <;> rfl), lb⟩
             ·
              rw [if_neg c49] at H; have c49b0 : ((Int.tmod (wrap64 (t457 + t458)) 2) == 1) = false := beq_eq_false_iff_ne.mpr c49; have c49b1 : ((Int.tmod (wrap64 (t457 + t458)) 2) != 1) = true := bne_iff_ne.mpr c49; have H' := ak H; clear H; have hnb54 := NB445_453.out; have hnc54 := NB453_445.out; have hcz55_0 := bc0 BK445; have hcz55_1 := bc1 BK445; have hfz55_0 := bf BK445 0; have hfz55_1 := bf BK445 1
              go_wp2_with (first | ((with_reducible refine gate_callee (f := 16) rfl ?_); refine goesZ (some 78) rfl rfl Try.func16 (by kernel_rfl) rfl #[.agg #[.int .i64 a0_0, .slice A0_1 l0_1.length c0_1], .int .i64 x10_3] rfl ?_; (with_reducible refine (compassref09_Degrees.calls k3 a0_0 _ _ l0_1 x10_3 t457 t458 _ ?side1 ?side2 A39.out).mono ?_); (case side1 => exact Kd.C_below HR0_1.out lb); (case side2 => exact HC0_1.out); rintro e w56 ⟨rfl, hb⟩; refine ⟨_, rfl, ?_⟩; have n_ := a4 (Kd.R_below (rx HO_454001.out) hb) (blk_below (bx BK445.out) hb) (blk_below (bx BK453.out) hb) (below_step lb hb); clear HO_454001 BK445 BK453 HB; obtain ⟨HO_454001, BK445, BK453, HB⟩ := n_; (try clear hb); (try clear hb2); (try clear hk); (try clear hi)))
              go_roundg k3
              case measure => have := HJ5.out; have := HJ19.out; have := HK3.out; omega
              case rel => exact ⟨(wrap64 (x10_3 + 1)), (by first | rfl | (simp [*]; done)), H', ⟨by have := HJ5.out; have := HJ19.out; have := HK3.out; omega⟩, ⟨rx HO_454001.out⟩, ⟨bx BK445.out⟩, ⟨bx BK453.out⟩, ⟨lb⟩⟩
           ·
            rw [if_neg c38] at H; have c38b0 : decide (x10_3 < a0_0) = false := decide_eq_false c38; clear c38; obtain rfl := Option.some.inj H; have hnb57 := NB445_453.out; have hnc57 := NB453_445.out; have hcz58_0 := bc0 BK445; have hcz58_1 := bc1 BK445; have hfz58_0 := bf BK445 0; have hfz58_1 := bf BK445 1
            go_wp2
            go_ret
            exact ⟨by first | rfl | (simp [errW_none, errW_some] <;> rfl) | (simp [*, errW_none, errW_some] <;> rfl), lb⟩
 ·
  replace c4 := Bool.eq_false_iff.mpr c4; subst c4
  have H1 : (some false) = some r := by rw [if_neg (show ¬ (false = true) by decide)] at H; exact H
  clear H; have H := H1; clear H1
  exact absurd ((Option.some.inj H).trans HR_.out) (by decide)

end Go.Proofs.Ytplbkggdnonfbaa.Q
