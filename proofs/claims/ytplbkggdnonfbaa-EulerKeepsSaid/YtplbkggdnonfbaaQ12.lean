import Derived.Test.YtplbkggdnonfbaaQ0
import Derived.Test.YtplbkggdnonfbaaQ3
namespace Go.Proofs.Ytplbkggdnonfbaa.Q
open Go.RowKit Go.Proofs.YtplbkggdnonfbaaW.PrintWords Go.Proofs.YtplbkggdnonfbaaW.PrintLast Go.Proofs.YtplbkggdnonfbaaW.PrintMore
attribute [local go_sem] max2_int min2_int max_two min_two max_three min_three max_four min_four   -- for this text's walks alone
set_option linter.unusedVariables false
set_option linter.unusedSimpArgs false

/-! ### euler_End: function 13 -/
mutual
def euler_End.j0 : Nat → Int → Bool → Int → List (S45) → Int → List (S51) → Option (Int × Int)
  | 0, _, _, _, _, _, _ => none
  | k + 1, x7, x28, x277000, x277001, x278000, x278001 => if x28 = true then (some (0, 30)) else (euler_End.l0 k x7 x278001 (x278001.length : Int) 0 x277000 x277001)
def euler_End.l0 : Nat → Int → List (S51) → Int → Int → Int → List (S45) → Option (Int × Int)
  | 0, _, _, _, _, _, _ => none
  | k + 1, x7, x30, x31, x32, x277000, x277001 => if x32 < x31 then (if 0 ≤ x32 then (if x32 < (x30.length : Int) then (if ((rd_T51 x30 x32).f0) < 0 then (euler_End.j2 k x7 x30 x31 x32 true x277000 x277001 ((rd_T51 x30 x32).f0) ((rd_T51 x30 x32).f1)) else (euler_End.j2 k x7 x30 x31 x32 (decide (((rd_T51 x30 x32).f0) ≥ (x277001.length : Int))) x277000 x277001 ((rd_T51 x30 x32).f0) ((rd_T51 x30 x32).f1))) else (none)) else (none)) else (some (x7, 0))
def euler_End.j2 : Nat → Int → List (S51) → Int → Int → Bool → Int → List (S45) → Int → Bool → Option (Int × Int)
  | 0, _, _, _, _, _, _, _, _, _ => none
  | k + 1, x7, x30, x31, x32, x46, x277000, x277001, x283000, x283001 => if x46 = true then (some (0, 32)) else (if 0 ≤ x283000 then (if x283000 < (x277001.length : Int) then (if x283001 = true then (if ((rd_T45 x277001 x283000).f1) = x7 then (euler_End.l0 k ((rd_T45 x277001 x283000).f0) x30 x31 (wrap64 (x32 + 1)) x277000 x277001) else (some (0, 91))) else (if ((rd_T45 x277001 x283000).f0) = x7 then (euler_End.l0 k ((rd_T45 x277001 x283000).f1) x30 x31 (wrap64 (x32 + 1)) x277000 x277001) else (some (0, 91)))) else (none)) else (none))
end
def euler_End.f (k : Nat) (a0_0 : Int) (l0_1 : List (S45)) (a1_0 : Int) (l1_1 : List (S51)) : Option (Int × Int) := (graph_Check.f k a0_0 l0_1).bind fun bt278 => (if bt278.1 = 0 then (if a1_0 < 0 then (euler_End.j0 k a1_0 true a0_0 l0_1 a1_0 l1_1) else (euler_End.j0 k a1_0 (decide (a1_0 ≥ a0_0)) a0_0 l0_1 a1_0 l1_1)) else (some (0, bt278.1)))
theorem euler_End.mono_l : ∀ k, (∀ y0 y1 y2 y3 y4 y5, LeO (euler_End.j0 k y0 y1 y2 y3 y4 y5) (euler_End.j0 (k + 1) y0 y1 y2 y3 y4 y5)) ∧ (∀ y0 y1 y2 y3 y4 y5, LeO (euler_End.l0 k y0 y1 y2 y3 y4 y5) (euler_End.l0 (k + 1) y0 y1 y2 y3 y4 y5)) ∧ (∀ y0 y1 y2 y3 y4 y5 y6 y7 y8, LeO (euler_End.j2 k y0 y1 y2 y3 y4 y5 y6 y7 y8) (euler_End.j2 (k + 1) y0 y1 y2 y3 y4 y5 y6 y7 y8))
  | 0 => ⟨fun _ _ _ _ _ _ r h => by simp [euler_End.j0] at h, fun _ _ _ _ _ _ r h => by simp [euler_End.l0] at h, fun _ _ _ _ _ _ _ _ _ r h => by simp [euler_End.j2] at h⟩
  | k + 1 => by
    obtain ⟨ih0, ih1, ih2⟩ := euler_End.mono_l k
    refine ⟨?_, ?_, ?_⟩
    · intro y0 y1 y2 y3 y4 y5
      unfold euler_End.j0
      repeat' first
      | (with_reducible exact ih0 _ _ _ _ _ _)
      | (with_reducible exact ih1 _ _ _ _ _ _)
      | (with_reducible exact ih2 _ _ _ _ _ _ _ _ _)
      | (with_reducible exact graph_Check.mono _ _ _)
      | (with_reducible exact LeO.refl _)
      | (with_reducible exact LeO.none _)
      | (with_reducible refine LeO.ite ?_ ?_)
      | (with_reducible refine LeO.bind ?_ (fun _ => ?_))
      | exact ih0 _ _ _ _ _ _
      | exact ih1 _ _ _ _ _ _
      | exact ih2 _ _ _ _ _ _ _ _ _
      | exact graph_Check.mono _ _ _
      | exact LeO.none _
      | refine LeO.ite ?_ ?_
      | refine LeO.bind ?_ (fun _ => ?_)
    · intro y0 y1 y2 y3 y4 y5
      unfold euler_End.l0
      repeat' first
      | (with_reducible exact ih0 _ _ _ _ _ _)
      | (with_reducible exact ih1 _ _ _ _ _ _)
      | (with_reducible exact ih2 _ _ _ _ _ _ _ _ _)
      | (with_reducible exact graph_Check.mono _ _ _)
      | (with_reducible exact LeO.refl _)
      | (with_reducible exact LeO.none _)
      | (with_reducible refine LeO.ite ?_ ?_)
      | (with_reducible refine LeO.bind ?_ (fun _ => ?_))
      | exact ih0 _ _ _ _ _ _
      | exact ih1 _ _ _ _ _ _
      | exact ih2 _ _ _ _ _ _ _ _ _
      | exact graph_Check.mono _ _ _
      | exact LeO.none _
      | refine LeO.ite ?_ ?_
      | refine LeO.bind ?_ (fun _ => ?_)
    · intro y0 y1 y2 y3 y4 y5 y6 y7 y8
      unfold euler_End.j2
      repeat' first
      | (with_reducible exact ih0 _ _ _ _ _ _)
      | (with_reducible exact ih1 _ _ _ _ _ _)
      | (with_reducible exact ih2 _ _ _ _ _ _ _ _ _)
      | (with_reducible exact graph_Check.mono _ _ _)
      | (with_reducible exact LeO.refl _)
      | (with_reducible exact LeO.none _)
      | (with_reducible refine LeO.ite ?_ ?_)
      | (with_reducible refine LeO.bind ?_ (fun _ => ?_))
      | exact ih0 _ _ _ _ _ _
      | exact ih1 _ _ _ _ _ _
      | exact ih2 _ _ _ _ _ _ _ _ _
      | exact graph_Check.mono _ _ _
      | exact LeO.none _
      | refine LeO.ite ?_ ?_
      | refine LeO.bind ?_ (fun _ => ?_)
theorem euler_End.mono : ∀ a0 a1 a2 a3 k, LeO (euler_End.f k a0 a1 a2 a3) (euler_End.f (k + 1) a0 a1 a2 a3) := by
  intro a0 a1 a2 a3 k
  obtain ⟨ih0, ih1, ih2⟩ := euler_End.mono_l k
  unfold euler_End.f
  repeat' first
      | (with_reducible exact ih0 _ _ _ _ _ _)
      | (with_reducible exact ih1 _ _ _ _ _ _)
      | (with_reducible exact ih2 _ _ _ _ _ _ _ _ _)
      | (with_reducible exact graph_Check.mono _ _ _)
      | (with_reducible exact LeO.refl _)
      | (with_reducible exact LeO.none _)
      | (with_reducible refine LeO.ite ?_ ?_)
      | (with_reducible refine LeO.bind ?_ (fun _ => ?_))
      | exact ih0 _ _ _ _ _ _
      | exact ih1 _ _ _ _ _ _
      | exact ih2 _ _ _ _ _ _ _ _ _
      | exact graph_Check.mono _ _ _
      | exact LeO.none _
      | refine LeO.ite ?_ ?_
      | refine LeO.bind ?_ (fun _ => ?_)
set_option maxHeartbeats 8000000 in
set_option maxRecDepth 100000 in
theorem euler_End.calls (k : Nat) (a0_0 : Int) (A0_1 : Option Addr) (c0_1 : Nat) (l0_1 : List (S45)) (a1_0 : Int) (A1_1 : Option Addr) (c1_1 : Nat) (l1_1 : List (S51)) (r1 : Int) (r2 : Int) (w : World) (hr0_1 : Kd.C k45 w A0_1 l0_1.length l0_1) (hc0_1 : l0_1.length ≤ c0_1) (hr1_1 : Kd.C k51 w A1_1 l1_1.length l1_1) (hc1_1 : l1_1.length ≤ c1_1) (h : euler_End.f k a0_0 l0_1 a1_0 l1_1 = some (r1, r2)) :
    Calls Try.prog 13 #[.agg #[.int .i64 a0_0, .slice A0_1 l0_1.length c0_1], .agg #[.int .i64 a1_0, .slice A1_1 l1_1.length c1_1]] w fun e w' => e = .returned (.tuple #[.int .i64 r1, .int .i64 r2]) ∧ Below w.heap.size w w' := by
 have hu24 := Try.underlying24; have hu28 := Try.underlying28; have hu53 := Try.underlying53; have hu51 := Try.underlying51; have HR0_1 := ak hr0_1; have HC0_1 := ak hc0_1; clear hr0_1 hc0_1; have HR1_1 := ak hr1_1; have HC1_1 := ak hc1_1; clear hr1_1 hc1_1; have HB := ak (Below.refl w.heap.size w); have H : ((graph_Check.f k a0_0 l0_1).bind fun bt278 => (if bt278.1 = 0 then (if a1_0 < 0 then (euler_End.j0 k a1_0 true a0_0 l0_1 a1_0 l1_1) else (euler_End.j0 k a1_0 (decide (a1_0 ≥ a0_0)) a0_0 l0_1 a1_0 l1_1)) else (some (0, bt278.1)))) = some (r1, r2) := h; clear h; replace H := Option.bind_eq_some_iff.mp H; obtain ⟨⟨t278, t279⟩, A30, H⟩ := H; replace H : (if t278 = 0 then (if a1_0 < 0 then (euler_End.j0 k a1_0 true a0_0 l0_1 a1_0 l1_1) else (euler_End.j0 k a1_0 (decide (a1_0 ≥ a0_0)) a0_0 l0_1 a1_0 l1_1)) else (some (0, t278))) = some (r1, r2) := H; have A3 := ak A30; clear A30
 by_cases c4 : t278 = 0
 ·
  rw [if_pos c4] at H; have c4b0 : (t278 == 0) = true := beq_iff_eq.mpr c4; have c4b1 : (t278 != 0) = false := bne_eq_false_iff_eq.mpr c4; clear c4; have HC5 := ak H; clear H
  go_enter Try.func13, Try.ntmps13
  go_upto_region 5 with (first | ((with_reducible refine gate_dst (N := 2) rfl ?_); (try (refine gate_guard (by rfl) ?_; dsimp only)); refine box_event ?hg (N := 2) ?hd (cs := #[.int .i64 a0_0, .slice A0_1 l0_1.length c0_1]) (t := 24) ?hr ?_; (case hd => rfl); (case hg => rfl); (case hr => first | (go_simp; done) | (go_simp; rfl)); intro gb276 hg w6 hbox hb; have n_ := a4 (below_step lb hb) hbox (gw w hg) (gw w hg); clear HB; obtain ⟨HB, BK276, GW276, GE276⟩ := n_; clear hb hbox hg) | ((with_reducible refine gate_dst (N := 3) rfl ?_); (try (refine gate_guard (by rfl) ?_; dsimp only)); refine box_event ?hg (N := 3) ?hd (cs := #[.int .i64 a1_0, .slice A1_1 l1_1.length c1_1]) (t := 28) ?hr ?_; (case hd => rfl); (case hg => rfl); (case hr => first | (go_simp; done) | (go_simp; rfl)); intro gb277 hg w7 hbox hb; have n_ := a7 (blk_below (bx BK276.out) hb) (below_step lb hb) hbox (gw w hg) (gw w hg) (nl hg BK276) (nr hg BK276); clear BK276 HB; obtain ⟨BK276, HB, BK277, GW277, GE277, NB276_277, NB277_276⟩ := n_; clear hb hbox hg; have hnb8 := NB276_277.out; have hnc8 := NB277_276.out; have hcz9_0 := bc0 BK276; have hcz9_1 := bc1 BK276; have hfz9_0 := bf BK276 0; have hfz9_1 := bf BK276 1) | (go_at_call 20; (with_reducible refine (graph_Check.calls k a0_0 _ _ l0_1 t278 t279 _ ?side1 ?side2 A3.out).mono ?_); (case side1 => exact Kd.C_below HR0_1.out lb); (case side2 => exact HC0_1.out); rintro e w10 ⟨rfl, hb⟩; have n_ := a3 (blk_below (bx BK276.out) hb) (blk_below (bx BK277.out) hb) (below_step lb hb); clear BK276 BK277 HB; obtain ⟨BK276, BK277, HB⟩ := n_; (try clear hb); (try clear hb2); (try clear hk); (try clear hi)) | ((with_reducible refine gate_dst (N := 6) rfl ?_); (try (refine gate_guard (by rfl) ?_; dsimp only)); refine box_event ?hg (N := 6) ?hd (cs := #[.int .i64 0, .int .i64 0]) (t := 53) ?hr ?_; (case hd => rfl); (case hg => rfl); (case hr => first | (go_simp; done) | (go_simp; rfl)); intro gb280 hg w11 hbox hb; have n_ := a10 (blk_below (bx BK276.out) hb) (blk_below (bx BK277.out) hb) (below_step lb hb) hbox (gw w hg) (gw w hg) (nl hg BK276) (nr hg BK276) (nl hg BK277) (nr hg BK277); clear BK276 BK277 HB; obtain ⟨BK276, BK277, HB, BK280, GW280, GE280, NB276_280, NB280_276, NB277_280, NB280_277⟩ := n_; clear hb hbox hg; have hnb12 := NB280_276.out; have hnc12 := NB276_280.out; have hnb13 := NB280_277.out; have hnc13 := NB277_280.out; have hcz14_0 := bc0 BK280; have hcz14_1 := bc1 BK280; have hfz14_0 := bf BK280 0; have hfz14_1 := bf BK280 1; have hcz15_0 := bc0 BK277; have hcz15_1 := bc1 BK277; have hfz15_0 := bf BK277 0; have hfz15_1 := bf BK277 1))
  (try simp only [Act.put, sA, sZ, sS])
  go_cut [28] (fun v28 wc => ∃ (kq : Nat) (x28_4 : Bool), v28 = .bool x28_4 ∧ Aside0 (euler_End.j0 kq a1_0 x28_4 a0_0 l0_1 a1_0 l1_1 = some (r1, r2)) ∧ Aside0 (kq ≤ k) ∧ Aside0 (wc.heap[gb276]? = some (.cells #[.int .i64 a0_0, (.slice A0_1 l0_1.length c0_1)] 24 (0, 0))) ∧ Aside0 (wc.heap[gb277]? = some (.cells #[.int .i64 a1_0, (.slice A1_1 l1_1.length c1_1)] 28 (0, 0))) ∧ Aside0 (wc.heap[gb280]? = some (.cells #[.int .i64 t278, .int .i64 t279] 53 (0, 0))) ∧ Aside0 (Below w.heap.size w wc))
  case first =>
   have H := HC5.out; clear HC5
   by_cases c16 : a1_0 < 0
   ·
    rw [if_pos c16] at H; have c16b0 := decide_eq_true c16; clear c16
    (first | rw [c16b0] | (simp only [i64_w, i32_w]; rw [c16b0]) | skip)
    have H' := ak H; clear H
    go_wp2
    repeat (go_quiet (fail); try go_wp2)
    go_meet
    case rel => exact ⟨_, (true), (by first | rfl | (simp [*]; done)), H', ⟨by first | omega | exact Nat.le_refl _⟩, ⟨by (with_reducible repeat (first | refine blk_drewN ?_ _ | refine blk_drew ?_ | refine blk_alloc ?_ _)); refine blk_far ?_ NB276_280.out _; (with_reducible repeat (first | refine blk_drewN ?_ _ | refine blk_drew ?_ | refine blk_alloc ?_ _)); refine blk_far ?_ NB276_280.out _; exact bx BK276.out⟩, ⟨by (with_reducible repeat (first | refine blk_drewN ?_ _ | refine blk_drew ?_ | refine blk_alloc ?_ _)); refine blk_far ?_ NB277_280.out _; (with_reducible repeat (first | refine blk_drewN ?_ _ | refine blk_drew ?_ | refine blk_alloc ?_ _)); refine blk_far ?_ NB277_280.out _; exact bx BK277.out⟩, ⟨by (with_reducible repeat (first | refine blk_drewN ?_ _ | refine blk_drew ?_ | refine blk_alloc ?_ _)); refine blk_put (cs := #[.int .i64 t278, .int .i64 0]) ?_ 1 _ rfl; (with_reducible repeat (first | refine blk_drewN ?_ _ | refine blk_drew ?_ | refine blk_alloc ?_ _)); refine blk_put (cs := #[.int .i64 0, .int .i64 0]) ?_ 0 _ rfl; exact bx BK280.out⟩, ⟨lb⟩⟩
   ·
    rw [if_neg c16] at H; have c16b0 : decide (a1_0 < 0) = false := decide_eq_false c16; clear c16
    (first | rw [c16b0] | (simp only [i64_w, i32_w]; rw [c16b0]) | skip)
    have H' := ak H; clear H; have hnb17 := NB276_277.out; have hnc17 := NB277_276.out; have hnb18 := NB276_280.out; have hnc18 := NB280_276.out; have hcz19_0 := bc0 BK276; have hcz19_1 := bc1 BK276; have hfz19_0 := bf BK276 0; have hfz19_1 := bf BK276 1
    go_wp2
    repeat (go_quiet (fail); try go_wp2)
    go_meet
    case rel => exact ⟨_, (decide (a1_0 ≥ a0_0)), (by first | rfl | (simp [*]; done)), H', ⟨by first | omega | exact Nat.le_refl _⟩, ⟨by (with_reducible repeat (first | refine blk_drewN ?_ _ | refine blk_drew ?_ | refine blk_alloc ?_ _)); refine blk_far ?_ NB276_280.out _; (with_reducible repeat (first | refine blk_drewN ?_ _ | refine blk_drew ?_ | refine blk_alloc ?_ _)); refine blk_far ?_ NB276_280.out _; exact bx BK276.out⟩, ⟨by (with_reducible repeat (first | refine blk_drewN ?_ _ | refine blk_drew ?_ | refine blk_alloc ?_ _)); refine blk_far ?_ NB277_280.out _; (with_reducible repeat (first | refine blk_drewN ?_ _ | refine blk_drew ?_ | refine blk_alloc ?_ _)); refine blk_far ?_ NB277_280.out _; exact bx BK277.out⟩, ⟨by (with_reducible repeat (first | refine blk_drewN ?_ _ | refine blk_drew ?_ | refine blk_alloc ?_ _)); refine blk_put (cs := #[.int .i64 t278, .int .i64 0]) ?_ 1 _ rfl; (with_reducible repeat (first | refine blk_drewN ?_ _ | refine blk_drew ?_ | refine blk_alloc ?_ _)); refine blk_put (cs := #[.int .i64 0, .int .i64 0]) ?_ 0 _ rfl; exact bx BK280.out⟩, ⟨lb⟩⟩
  case rest =>
   clear HC5; obtain ⟨kq, x28_4, rfl, HA, HJ4, BK276, BK277, BK280, HB⟩ := hcut
   cases kq with
   | zero => exact absurd HA.out (by simp [euler_End.j0])
   | succ kj4 =>
    have H := HA.out; clear HA
    simp only [euler_End.j0] at H
    by_cases c20 : x28_4 = true
    ·
     subst c20
     have H1 : (some (0, 30)) = some (r1, r2) := by rw [if_pos rfl] at H; exact H
     clear H; have H := H1; clear H1
     simp only [Option.some.injEq, Prod.mk.injEq] at H
     obtain ⟨rfl, rfl⟩ := H
     go_wp2
     repeat (go_quiet (fail); try go_wp2)
     go_ret2
     exact ⟨by first | rfl | (simp [errW_none, errW_some] <;> rfl) | (simp [*, errW_none, errW_some] <;> rfl), lb⟩
    ·
     replace c20 := Bool.eq_false_iff.mpr c20; subst c20
     have H1 : (euler_End.l0 kj4 a1_0 l1_1 (l1_1.length : Int) 0 a0_0 l0_1) = some (r1, r2) := by rw [if_neg (show ¬ (false = true) by decide)] at H; exact H
     clear H; have H := H1; clear H1; have H' := ak H; clear H; have hnb21 := NB277_276.out; have hnc21 := NB276_277.out; have hnb22 := NB277_280.out; have hnc22 := NB280_277.out; have hcz23_0 := bc0 BK277; have hcz23_1 := bc1 BK277; have hfz23_0 := bf BK277 0; have hfz23_1 := bf BK277 1
     go_wp2
     repeat (go_quiet (fail); try go_wp2)
     go_loopg [7, 32] kj4 (fun kq v7 v32 w' => ∃ (x7_2 : Int) (x32_2 : Int), v7 = .int .i64 x7_2 ∧ v32 = .int .i64 x32_2 ∧ Aside0 (euler_End.l0 kq x7_2 l1_1 (l1_1.length : Int) x32_2 a0_0 l0_1 = some (r1, r2)) ∧ Aside0 (kq ≤ kj4) ∧ Aside0 (w'.heap[gb276]? = some (.cells #[.int .i64 a0_0, (.slice A0_1 l0_1.length c0_1)] 24 (0, 0))) ∧ Aside0 (w'.heap[gb277]? = some (.cells #[.int .i64 a1_0, (.slice A1_1 l1_1.length c1_1)] 28 (0, 0))) ∧ Aside0 (w'.heap[gb280]? = some (.cells #[.int .i64 t278, .int .i64 t279] 53 (0, 0))) ∧ Aside0 (Below w.heap.size w w'))
     case atStart => exact ⟨(a1_0), (0), (by first | rfl | (simp [*]; done)), (by first | rfl | (simp [*]; done)), H', ⟨Nat.le_refl _⟩, ⟨bx BK276.out⟩, ⟨bx BK277.out⟩, ⟨bx BK280.out⟩, ⟨lb⟩⟩
     case round =>
      clear H'; obtain ⟨x7_2, x32_2, rfl, rfl, HA, HK2, BK276, BK277, BK280, HB⟩ := hrel
      cases gk with
      | zero => exact absurd HA.out (by simp [euler_End.l0])
      | succ k2 =>
       have H := HA.out; clear HA
       simp only [euler_End.l0] at H
       by_cases c24 : x32_2 < (l1_1.length : Int)
       ·
        rw [if_pos c24] at H; have c24b0 := decide_eq_true c24; clear c24; replace H := ifd H; obtain ⟨c25b0, H⟩ := H; replace H := ifd H; obtain ⟨c26b0, H⟩ := H; have HC27 := ak H; clear H; have p281 : 0 ≤ (x32_2 : Int) := oda; have q281 : x32_2 < (l1_1.length : Int) := oda; obtain ⟨ad281, e281, hx281_0, hx281_1⟩ := at_T51 HR1_1.out x32_2 p281 q281; cases e281
        (try replace hx281_0 := hbc HB hx281_0)
        (try replace hx281_1 := hbc HB hx281_1)
        replace p281 := eq_true p281; replace q281 := eq_true q281
        go_upto_region 10 with (first | ((with_reducible refine gate_dst (N := 9) rfl ?_); (try (refine gate_guard (by rfl) ?_; dsimp only)); refine box_event ?hg (N := 9) ?hd (cs := #[.int .i64 0, .bool false]) (t := 51) ?hr ?_; (case hd => rfl); (case hg => rfl); (case hr => first | (go_simp; done) | (go_simp; rfl)); intro gb282 hg w28 hbox hb; have n_ := a13 (blk_below (bx BK276.out) hb) (blk_below (bx BK277.out) hb) (blk_below (bx BK280.out) hb) (below_step lb hb) hbox (gw w hg) (gw w hg) (nl hg BK276) (nr hg BK276) (nl hg BK277) (nr hg BK277) (nl hg BK280) (nr hg BK280); clear BK276 BK277 BK280 HB; obtain ⟨BK276, BK277, BK280, HB, BK282, GW282, GE282, NB276_282, NB282_276, NB277_282, NB282_277, NB280_282, NB282_280⟩ := n_; clear hb hbox hg; have hnb29 := NB282_276.out; have hnc29 := NB276_282.out; have hnb30 := NB282_277.out; have hnc30 := NB277_282.out; have hnb31 := NB282_280.out; have hnc31 := NB280_282.out; have hcz32_0 := bc0 BK282; have hcz32_1 := bc1 BK282; have hfz32_0 := bf BK282 0; have hfz32_1 := bf BK282 1))
        (try simp only [Act.put, sA, sZ, sS])
        go_cut [46] (fun v46 wc => ∃ (kq : Nat) (x46_26 : Bool), v46 = .bool x46_26 ∧ Aside0 (euler_End.j2 kq x7_2 l1_1 (l1_1.length : Int) x32_2 x46_26 a0_0 l0_1 ((rd_T51 l1_1 x32_2).f0) ((rd_T51 l1_1 x32_2).f1) = some (r1, r2)) ∧ Aside0 (kq ≤ k2) ∧ Aside0 (wc.heap[gb276]? = some (.cells #[.int .i64 a0_0, (.slice A0_1 l0_1.length c0_1)] 24 (0, 0))) ∧ Aside0 (wc.heap[gb277]? = some (.cells #[.int .i64 a1_0, (.slice (some ad281) l1_1.length c1_1)] 28 (0, 0))) ∧ Aside0 (wc.heap[gb280]? = some (.cells #[.int .i64 t278, .int .i64 t279] 53 (0, 0))) ∧ Aside0 (wc.heap[gb282]? = some (.cells #[.int .i64 ((rd_T51 l1_1 x32_2).f0), .bool ((rd_T51 l1_1 x32_2).f1)] 51 (0, 0))) ∧ Aside0 (Below w.heap.size w wc))
        case first =>
         have H := HC27.out; clear HC27
         by_cases c33 : ((rd_T51 l1_1 x32_2).f0) < 0
         ·
          rw [if_pos c33] at H; have c33b0 := decide_eq_true c33; clear c33
          (first | rw [c33b0] | (simp only [i64_w, i32_w]; rw [c33b0]) | skip)
          have H' := ak H; clear H; have hnb34 := NB282_276.out; have hnc34 := NB276_282.out; have hnb35 := NB282_277.out; have hnc35 := NB277_282.out; have hnb36 := NB282_280.out; have hnc36 := NB280_282.out; have hcz37_0 := bc0 BK282; have hcz37_1 := bc1 BK282; have hfz37_0 := bf BK282 0; have hfz37_1 := bf BK282 1
          go_wp2
          repeat (go_quiet (fail); try go_wp2)
          go_meet
          case rel => exact ⟨_, (true), (by first | rfl | (simp [*]; done)), H', ⟨by have := HJ4.out; have := HK2.out; first | omega | exact Nat.le_refl _⟩, ⟨by (with_reducible repeat (first | refine blk_drewN ?_ _ | refine blk_drew ?_ | refine blk_alloc ?_ _)); refine blk_far ?_ NB276_282.out _; (with_reducible repeat (first | refine blk_drewN ?_ _ | refine blk_drew ?_ | refine blk_alloc ?_ _)); refine blk_far ?_ NB276_282.out _; exact bx BK276.out⟩, ⟨by (with_reducible repeat (first | refine blk_drewN ?_ _ | refine blk_drew ?_ | refine blk_alloc ?_ _)); refine blk_far ?_ NB277_282.out _; (with_reducible repeat (first | refine blk_drewN ?_ _ | refine blk_drew ?_ | refine blk_alloc ?_ _)); refine blk_far ?_ NB277_282.out _; exact bx BK277.out⟩, ⟨by (with_reducible repeat (first | refine blk_drewN ?_ _ | refine blk_drew ?_ | refine blk_alloc ?_ _)); refine blk_far ?_ NB280_282.out _; (with_reducible repeat (first | refine blk_drewN ?_ _ | refine blk_drew ?_ | refine blk_alloc ?_ _)); refine blk_far ?_ NB280_282.out _; exact bx BK280.out⟩, ⟨by (with_reducible repeat (first | refine blk_drewN ?_ _ | refine blk_drew ?_ | refine blk_alloc ?_ _)); refine blk_put (cs := #[.int .i64 ((rd_T51 l1_1 x32_2).f0), .bool false]) ?_ 1 _ rfl; (with_reducible repeat (first | refine blk_drewN ?_ _ | refine blk_drew ?_ | refine blk_alloc ?_ _)); refine blk_put (cs := #[.int .i64 0, .bool false]) ?_ 0 _ rfl; exact bx BK282.out⟩, ⟨lb⟩⟩
         ·
          rw [if_neg c33] at H; have c33b0 : decide (((rd_T51 l1_1 x32_2).f0) < 0) = false := decide_eq_false c33; clear c33
          (first | rw [c33b0] | (simp only [i64_w, i32_w]; rw [c33b0]) | skip)
          have H' := ak H; clear H; have hnb38 := NB282_276.out; have hnc38 := NB276_282.out; have hnb39 := NB282_277.out; have hnc39 := NB277_282.out; have hnb40 := NB282_280.out; have hnc40 := NB280_282.out; have hcz41_0 := bc0 BK282; have hcz41_1 := bc1 BK282; have hfz41_0 := bf BK282 0; have hfz41_1 := bf BK282 1; have hnb42 := NB276_277.out; have hnc42 := NB277_276.out; have hnb43 := NB276_280.out; have hnc43 := NB280_276.out; have hcz44_0 := bc0 BK276; have hcz44_1 := bc1 BK276; have hfz44_0 := bf BK276 0; have hfz44_1 := bf BK276 1
          go_wp2
          repeat (go_quiet (fail); try go_wp2)
          go_meet
          case rel => exact ⟨_, (decide (((rd_T51 l1_1 x32_2).f0) ≥ (l0_1.length : Int))), (by first | rfl | (simp [*]; done)), H', ⟨by have := HJ4.out; have := HK2.out; first | omega | exact Nat.le_refl _⟩, ⟨by (with_reducible repeat (first | refine blk_drewN ?_ _ | refine blk_drew ?_ | refine blk_alloc ?_ _)); refine blk_far ?_ NB276_282.out _; (with_reducible repeat (first | refine blk_drewN ?_ _ | refine blk_drew ?_ | refine blk_alloc ?_ _)); refine blk_far ?_ NB276_282.out _; exact bx BK276.out⟩, ⟨by (with_reducible repeat (first | refine blk_drewN ?_ _ | refine blk_drew ?_ | refine blk_alloc ?_ _)); refine blk_far ?_ NB277_282.out _; (with_reducible repeat (first | refine blk_drewN ?_ _ | refine blk_drew ?_ | refine blk_alloc ?_ _)); refine blk_far ?_ NB277_282.out _; exact bx BK277.out⟩, ⟨by (with_reducible repeat (first | refine blk_drewN ?_ _ | refine blk_drew ?_ | refine blk_alloc ?_ _)); refine blk_far ?_ NB280_282.out _; (with_reducible repeat (first | refine blk_drewN ?_ _ | refine blk_drew ?_ | refine blk_alloc ?_ _)); refine blk_far ?_ NB280_282.out _; exact bx BK280.out⟩, ⟨by (with_reducible repeat (first | refine blk_drewN ?_ _ | refine blk_drew ?_ | refine blk_alloc ?_ _)); refine blk_put (cs := #[.int .i64 ((rd_T51 l1_1 x32_2).f0), .bool false]) ?_ 1 _ rfl; (with_reducible repeat (first | refine blk_drewN ?_ _ | refine blk_drew ?_ | refine blk_alloc ?_ _)); refine blk_put (cs := #[.int .i64 0, .bool false]) ?_ 0 _ rfl; exact bx BK282.out⟩, ⟨lb⟩⟩
        case rest =>
         clear HC27; obtain ⟨kq, x46_26, rfl, HA, HJ26, BK276, BK277, BK280, BK282, HB⟩ := hcut
         cases kq with
         | zero => exact absurd HA.out (by simp [euler_End.j2])
         | succ kj26 =>
          have H := HA.out; clear HA
          simp only [euler_End.j2] at H
          by_cases c45 : x46_26 = true
          ·
           subst c45
           have H1 : (some (0, 32)) = some (r1, r2) := by rw [if_pos rfl] at H; exact H
           clear H; have H := H1; clear H1
           simp only [Option.some.injEq, Prod.mk.injEq] at H
           obtain ⟨rfl, rfl⟩ := H
           go_wp2
           repeat (go_quiet (fail); try go_wp2)
           go_ret2
           exact ⟨by first | rfl | (simp [errW_none, errW_some] <;> rfl) | (simp [*, errW_none, errW_some] <;> rfl), lb⟩
          ·
           replace c45 := Bool.eq_false_iff.mpr c45; subst c45
           have H1 : (if 0 ≤ ((rd_T51 l1_1 x32_2).f0) then (if ((rd_T51 l1_1 x32_2).f0) < (l0_1.length : Int) then (if ((rd_T51 l1_1 x32_2).f1) = true then (if ((rd_T45 l0_1 ((rd_T51 l1_1 x32_2).f0)).f1) = x7_2 then (euler_End.l0 kj26 ((rd_T45 l0_1 ((rd_T51 l1_1 x32_2).f0)).f0) l1_1 (l1_1.length : Int) (wrap64 (x32_2 + 1)) a0_0 l0_1) else (some (0, 91))) else (if ((rd_T45 l0_1 ((rd_T51 l1_1 x32_2).f0)).f0) = x7_2 then (euler_End.l0 kj26 ((rd_T45 l0_1 ((rd_T51 l1_1 x32_2).f0)).f1) l1_1 (l1_1.length : Int) (wrap64 (x32_2 + 1)) a0_0 l0_1) else (some (0, 91)))) else (none)) else (none)) = some (r1, r2) := by rw [if_neg (show ¬ (false = true) by decide)] at H; exact H
           clear H; have H := H1; clear H1; replace H := ifd H; obtain ⟨c46b0, H⟩ := H; replace H := ifd H; obtain ⟨c47b0, H⟩ := H
           by_cases c48 : ((rd_T51 l1_1 x32_2).f1) = true
           ·
            rw [if_pos c48] at H; have c48b0 : ((rd_T51 l1_1 x32_2).f1) = true := c48; clear c48
            by_cases c49 : ((rd_T45 l0_1 ((rd_T51 l1_1 x32_2).f0)).f1) = x7_2
            ·
             rw [if_pos c49] at H; have c49b0 : (((rd_T45 l0_1 ((rd_T51 l1_1 x32_2).f0)).f1) == x7_2) = true := beq_iff_eq.mpr c49; have c49b1 : (((rd_T45 l0_1 ((rd_T51 l1_1 x32_2).f0)).f1) != x7_2) = false := bne_eq_false_iff_eq.mpr c49; clear c49; have H' := ak H; clear H; have hnb50 := NB276_277.out; have hnc50 := NB277_276.out; have hnb51 := NB276_280.out; have hnc51 := NB280_276.out; have hnb52 := NB276_282.out; have hnc52 := NB282_276.out; have hcz53_0 := bc0 BK276; have hcz53_1 := bc1 BK276; have hfz53_0 := bf BK276 0; have hfz53_1 := bf BK276 1; have hnb54 := NB282_277.out; have hnc54 := NB277_282.out; have hnb55 := NB282_280.out; have hnc55 := NB280_282.out; have hcz56_0 := bc0 BK282; have hcz56_1 := bc1 BK282; have hfz56_0 := bf BK282 0; have hfz56_1 := bf BK282 1; have p283 : 0 ≤ (((rd_T51 l1_1 x32_2).f0) : Int) := oda; have q283 : ((rd_T51 l1_1 x32_2).f0) < (l0_1.length : Int) := oda; obtain ⟨ad283, e283, hx283_0, hx283_1, hx283_2, hx283_3⟩ := at_T45 HR0_1.out ((rd_T51 l1_1 x32_2).f0) p283 q283; cases e283
             (try replace hx283_0 := hbc HB hx283_0)
             (try replace hx283_1 := hbc HB hx283_1)
             (try replace hx283_2 := hbc HB hx283_2)
             (try replace hx283_3 := hbc HB hx283_3)
             replace p283 := eq_true p283; replace q283 := eq_true q283; have p284 : 0 ≤ (((rd_T51 l1_1 x32_2).f0) : Int) := oda; have q284 : ((rd_T51 l1_1 x32_2).f0) < (l0_1.length : Int) := oda; obtain ⟨ad284, e284, hx284_0, hx284_1, hx284_2, hx284_3⟩ := at_T45 HR0_1.out ((rd_T51 l1_1 x32_2).f0) p284 q284
             obtain rfl : ad283 = ad284 := (by injection e284)
             (try replace hx284_0 := hbc HB hx284_0)
             (try replace hx284_1 := hbc HB hx284_1)
             (try replace hx284_2 := hbc HB hx284_2)
             (try replace hx284_3 := hbc HB hx284_3)
             replace p284 := eq_true p284; replace q284 := eq_true q284
             go_wp2
             repeat (go_quiet (fail); try go_wp2)
             go_roundg kj26
             case measure => have := HJ4.out; have := HK2.out; have := HJ26.out; omega
             case rel => exact ⟨((rd_T45 l0_1 ((rd_T51 l1_1 x32_2).f0)).f0), (wrap64 (x32_2 + 1)), (by first | rfl | (simp [*]; done)), (by first | rfl | (simp [*]; done)), H', ⟨by have := HJ4.out; have := HK2.out; have := HJ26.out; omega⟩, ⟨bx BK276.out⟩, ⟨bx BK277.out⟩, ⟨bx BK280.out⟩, ⟨lb⟩⟩
            ·
             rw [if_neg c49] at H; have c49b0 : (((rd_T45 l0_1 ((rd_T51 l1_1 x32_2).f0)).f1) == x7_2) = false := beq_eq_false_iff_ne.mpr c49; have c49b1 : (((rd_T45 l0_1 ((rd_T51 l1_1 x32_2).f0)).f1) != x7_2) = true := bne_iff_ne.mpr c49
             simp only [Option.some.injEq, Prod.mk.injEq] at H
             obtain ⟨rfl, rfl⟩ := H; have hnb57 := NB276_277.out; have hnc57 := NB277_276.out; have hnb58 := NB276_280.out; have hnc58 := NB280_276.out; have hnb59 := NB276_282.out; have hnc59 := NB282_276.out; have hcz60_0 := bc0 BK276; have hcz60_1 := bc1 BK276; have hfz60_0 := bf BK276 0; have hfz60_1 := bf BK276 1; have hnb61 := NB282_277.out; have hnc61 := NB277_282.out; have hnb62 := NB282_280.out; have hnc62 := NB280_282.out; have hcz63_0 := bc0 BK282; have hcz63_1 := bc1 BK282; have hfz63_0 := bf BK282 0; have hfz63_1 := bf BK282 1; have p283 : 0 ≤ (((rd_T51 l1_1 x32_2).f0) : Int) := oda; have q283 : ((rd_T51 l1_1 x32_2).f0) < (l0_1.length : Int) := oda; obtain ⟨ad283, e283, hx283_0, hx283_1, hx283_2, hx283_3⟩ := at_T45 HR0_1.out ((rd_T51 l1_1 x32_2).f0) p283 q283; cases e283
             (try replace hx283_0 := hbc HB hx283_0)
             (try replace hx283_1 := hbc HB hx283_1)
             (try replace hx283_2 := hbc HB hx283_2)
             (try replace hx283_3 := hbc HB hx283_3)
             replace p283 := eq_true p283; replace q283 := eq_true q283; have p284 : 0 ≤ (((rd_T51 l1_1 x32_2).f0) : Int) := oda; have q284 : ((rd_T51 l1_1 x32_2).f0) < (l0_1.length : Int) := oda; obtain ⟨ad284, e284, hx284_0, hx284_1, hx284_2, hx284_3⟩ := at_T45 HR0_1.out ((rd_T51 l1_1 x32_2).f0) p284 q284
             obtain rfl : ad283 = ad284 := (by injection e284)
             (try replace hx284_0 := hbc HB hx284_0)
             (try replace hx284_1 := hbc HB hx284_1)
             (try replace hx284_2 := hbc HB hx284_2)
             (try replace hx284_3 := hbc HB hx284_3)
             replace p284 := eq_true p284; replace q284 := eq_true q284
             go_wp2
             repeat (go_quiet (fail); try go_wp2)
             go_ret2
             exact ⟨by first | rfl | (simp [errW_none, errW_some] <;> rfl) | (simp [*, errW_none, errW_some] <;> rfl), lb⟩
           ·
            rw [if_neg c48] at H; have c48b0 : ((rd_T51 l1_1 x32_2).f1) = false := by simpa using c48
            clear c48
            by_cases c64 : ((rd_T45 l0_1 ((rd_T51 l1_1 x32_2).f0)).f0) = x7_2
            ·
             rw [if_pos c64] at H; have c64b0 : (((rd_T45 l0_1 ((rd_T51 l1_1 x32_2).f0)).f0) == x7_2) = true := beq_iff_eq.mpr c64; have c64b1 : (((rd_T45 l0_1 ((rd_T51 l1_1 x32_2).f0)).f0) != x7_2) = false := bne_eq_false_iff_eq.mpr c64; clear c64; have H' := ak H; clear H; have hnb65 := NB276_277.out; have hnc65 := NB277_276.out; have hnb66 := NB276_280.out; have hnc66 := NB280_276.out; have hnb67 := NB276_282.out; have hnc67 := NB282_276.out; have hcz68_0 := bc0 BK276; have hcz68_1 := bc1 BK276; have hfz68_0 := bf BK276 0; have hfz68_1 := bf BK276 1; have hnb69 := NB282_277.out; have hnc69 := NB277_282.out; have hnb70 := NB282_280.out; have hnc70 := NB280_282.out; have hcz71_0 := bc0 BK282; have hcz71_1 := bc1 BK282; have hfz71_0 := bf BK282 0; have hfz71_1 := bf BK282 1; have p283 : 0 ≤ (((rd_T51 l1_1 x32_2).f0) : Int) := oda; have q283 : ((rd_T51 l1_1 x32_2).f0) < (l0_1.length : Int) := oda; obtain ⟨ad283, e283, hx283_0, hx283_1, hx283_2, hx283_3⟩ := at_T45 HR0_1.out ((rd_T51 l1_1 x32_2).f0) p283 q283; cases e283
             (try replace hx283_0 := hbc HB hx283_0)
             (try replace hx283_1 := hbc HB hx283_1)
             (try replace hx283_2 := hbc HB hx283_2)
             (try replace hx283_3 := hbc HB hx283_3)
             replace p283 := eq_true p283; replace q283 := eq_true q283; have p284 : 0 ≤ (((rd_T51 l1_1 x32_2).f0) : Int) := oda; have q284 : ((rd_T51 l1_1 x32_2).f0) < (l0_1.length : Int) := oda; obtain ⟨ad284, e284, hx284_0, hx284_1, hx284_2, hx284_3⟩ := at_T45 HR0_1.out ((rd_T51 l1_1 x32_2).f0) p284 q284
             obtain rfl : ad283 = ad284 := (by injection e284)
             (try replace hx284_0 := hbc HB hx284_0)
             (try replace hx284_1 := hbc HB hx284_1)
             (try replace hx284_2 := hbc HB hx284_2)
             (try replace hx284_3 := hbc HB hx284_3)
             replace p284 := eq_true p284; replace q284 := eq_true q284
             go_wp2
             repeat (go_quiet (fail); try go_wp2)
             go_roundg kj26
             case measure => have := HJ4.out; have := HK2.out; have := HJ26.out; omega
             case rel => exact ⟨((rd_T45 l0_1 ((rd_T51 l1_1 x32_2).f0)).f1), (wrap64 (x32_2 + 1)), (by first | rfl | (simp [*]; done)), (by first | rfl | (simp [*]; done)), H', ⟨by have := HJ4.out; have := HK2.out; have := HJ26.out; omega⟩, ⟨bx BK276.out⟩, ⟨bx BK277.out⟩, ⟨bx BK280.out⟩, ⟨lb⟩⟩
            ·
             rw [if_neg c64] at H; have c64b0 : (((rd_T45 l0_1 ((rd_T51 l1_1 x32_2).f0)).f0) == x7_2) = false := beq_eq_false_iff_ne.mpr c64; have c64b1 : (((rd_T45 l0_1 ((rd_T51 l1_1 x32_2).f0)).f0) != x7_2) = true := bne_iff_ne.mpr c64
             simp only [Option.some.injEq, Prod.mk.injEq] at H
             obtain ⟨rfl, rfl⟩ := H; have hnb72 := NB276_277.out; have hnc72 := NB277_276.out; have hnb73 := NB276_280.out; have hnc73 := NB280_276.out; have hnb74 := NB276_282.out; have hnc74 := NB282_276.out; have hcz75_0 := bc0 BK276; have hcz75_1 := bc1 BK276; have hfz75_0 := bf BK276 0; have hfz75_1 := bf BK276 1; have hnb76 := NB282_277.out; have hnc76 := NB277_282.out; have hnb77 := NB282_280.out; have hnc77 := NB280_282.out; have hcz78_0 := bc0 BK282; have hcz78_1 := bc1 BK282; have hfz78_0 := bf BK282 0; have hfz78_1 := bf BK282 1; have p283 : 0 ≤ (((rd_T51 l1_1 x32_2).f0) : Int) := oda; have q283 : ((rd_T51 l1_1 x32_2).f0) < (l0_1.length : Int) := oda; obtain ⟨ad283, e283, hx283_0, hx283_1, hx283_2, hx283_3⟩ := at_T45 HR0_1.out ((rd_T51 l1_1 x32_2).f0) p283 q283; cases e283
             (try replace hx283_0 := hbc HB hx283_0)
             (try replace hx283_1 := hbc HB hx283_1)
             (try replace hx283_2 := hbc HB hx283_2)
             (try replace hx283_3 := hbc HB hx283_3)
             replace p283 := eq_true p283; replace q283 := eq_true q283; have p284 : 0 ≤ (((rd_T51 l1_1 x32_2).f0) : Int) := oda; have q284 : ((rd_T51 l1_1 x32_2).f0) < (l0_1.length : Int) := oda; obtain ⟨ad284, e284, hx284_0, hx284_1, hx284_2, hx284_3⟩ := at_T45 HR0_1.out ((rd_T51 l1_1 x32_2).f0) p284 q284
             obtain rfl : ad283 = ad284 := (by injection e284)
             (try replace hx284_0 := hbc HB hx284_0)
             (try replace hx284_1 := hbc HB hx284_1)
             (try replace hx284_2 := hbc HB hx284_2)
             (try replace hx284_3 := hbc HB hx284_3)
             replace p284 := eq_true p284; replace q284 := eq_true q284
             go_wp2
             repeat (go_quiet (fail); try go_wp2)
             go_ret2
             exact ⟨by first | rfl | (simp [errW_none, errW_some] <;> rfl) | (simp [*, errW_none, errW_some] <;> rfl), lb⟩
       ·
        rw [if_neg c24] at H; have c24b0 : decide (x32_2 < (l1_1.length : Int)) = false := decide_eq_false c24; clear c24
        simp only [Option.some.injEq, Prod.mk.injEq] at H
        obtain ⟨rfl, rfl⟩ := H
        go_wp2
        repeat (go_quiet (fail); try go_wp2)
        go_ret2
        exact ⟨by first | rfl | (simp [errW_none, errW_some] <;> rfl) | (simp [*, errW_none, errW_some] <;> rfl), lb⟩
 ·
  rw [if_neg c4] at H; have c4b0 : (t278 == 0) = false := beq_eq_false_iff_ne.mpr c4; have c4b1 : (t278 != 0) = true := bne_iff_ne.mpr c4
  simp only [Option.some.injEq, Prod.mk.injEq] at H
  obtain ⟨rfl, rfl⟩ := H
  go_enter Try.func13, Try.ntmps13
  go_wp2_with (first | ((with_reducible refine gate_dst (N := 2) rfl ?_); (try (refine gate_guard (by rfl) ?_; dsimp only)); refine box_event ?hg (N := 2) ?hd (cs := #[.int .i64 a0_0, .slice A0_1 l0_1.length c0_1]) (t := 24) ?hr ?_; (case hd => rfl); (case hg => rfl); (case hr => first | (go_simp; done) | (go_simp; rfl)); intro gb276 hg w79 hbox hb; have n_ := a4 (below_step lb hb) hbox (gw w hg) (gw w hg); clear HB; obtain ⟨HB, BK276, GW276, GE276⟩ := n_; clear hb hbox hg) | ((with_reducible refine gate_dst (N := 3) rfl ?_); (try (refine gate_guard (by rfl) ?_; dsimp only)); refine box_event ?hg (N := 3) ?hd (cs := #[.int .i64 a1_0, .slice A1_1 l1_1.length c1_1]) (t := 28) ?hr ?_; (case hd => rfl); (case hg => rfl); (case hr => first | (go_simp; done) | (go_simp; rfl)); intro gb277 hg w80 hbox hb; have n_ := a7 (blk_below (bx BK276.out) hb) (below_step lb hb) hbox (gw w hg) (gw w hg) (nl hg BK276) (nr hg BK276); clear BK276 HB; obtain ⟨BK276, HB, BK277, GW277, GE277, NB276_277, NB277_276⟩ := n_; clear hb hbox hg; have hnb81 := NB276_277.out; have hnc81 := NB277_276.out; have hcz82_0 := bc0 BK276; have hcz82_1 := bc1 BK276; have hfz82_0 := bf BK276 0; have hfz82_1 := bf BK276 1) | (go_at_call 20; (with_reducible refine (graph_Check.calls k a0_0 _ _ l0_1 t278 t279 _ ?side1 ?side2 A3.out).mono ?_); (case side1 => exact Kd.C_below HR0_1.out lb); (case side2 => exact HC0_1.out); rintro e w83 ⟨rfl, hb⟩; have n_ := a3 (blk_below (bx BK276.out) hb) (blk_below (bx BK277.out) hb) (below_step lb hb); clear BK276 BK277 HB; obtain ⟨BK276, BK277, HB⟩ := n_; (try clear hb); (try clear hb2); (try clear hk); (try clear hi)) | ((with_reducible refine gate_dst (N := 6) rfl ?_); (try (refine gate_guard (by rfl) ?_; dsimp only)); refine box_event ?hg (N := 6) ?hd (cs := #[.int .i64 0, .int .i64 0]) (t := 53) ?hr ?_; (case hd => rfl); (case hg => rfl); (case hr => first | (go_simp; done) | (go_simp; rfl)); intro gb280 hg w84 hbox hb; have n_ := a10 (blk_below (bx BK276.out) hb) (blk_below (bx BK277.out) hb) (below_step lb hb) hbox (gw w hg) (gw w hg) (nl hg BK276) (nr hg BK276) (nl hg BK277) (nr hg BK277); clear BK276 BK277 HB; obtain ⟨BK276, BK277, HB, BK280, GW280, GE280, NB276_280, NB280_276, NB277_280, NB280_277⟩ := n_; clear hb hbox hg; have hnb85 := NB280_276.out; have hnc85 := NB276_280.out; have hnb86 := NB280_277.out; have hnc86 := NB277_280.out; have hcz87_0 := bc0 BK280; have hcz87_1 := bc1 BK280; have hfz87_0 := bf BK280 0; have hfz87_1 := bf BK280 1))
  repeat (go_quiet (first | ((with_reducible refine gate_dst (N := 2) rfl ?_); (try (refine gate_guard (by rfl) ?_; dsimp only)); refine box_event ?hg (N := 2) ?hd (cs := #[.int .i64 a0_0, .slice A0_1 l0_1.length c0_1]) (t := 24) ?hr ?_; (case hd => rfl); (case hg => rfl); (case hr => first | (go_simp; done) | (go_simp; rfl)); intro gb276 hg w79 hbox hb; have n_ := a4 (below_step lb hb) hbox (gw w hg) (gw w hg); clear HB; obtain ⟨HB, BK276, GW276, GE276⟩ := n_; clear hb hbox hg) | ((with_reducible refine gate_dst (N := 3) rfl ?_); (try (refine gate_guard (by rfl) ?_; dsimp only)); refine box_event ?hg (N := 3) ?hd (cs := #[.int .i64 a1_0, .slice A1_1 l1_1.length c1_1]) (t := 28) ?hr ?_; (case hd => rfl); (case hg => rfl); (case hr => first | (go_simp; done) | (go_simp; rfl)); intro gb277 hg w80 hbox hb; have n_ := a7 (blk_below (bx BK276.out) hb) (below_step lb hb) hbox (gw w hg) (gw w hg) (nl hg BK276) (nr hg BK276); clear BK276 HB; obtain ⟨BK276, HB, BK277, GW277, GE277, NB276_277, NB277_276⟩ := n_; clear hb hbox hg; have hnb81 := NB276_277.out; have hnc81 := NB277_276.out; have hcz82_0 := bc0 BK276; have hcz82_1 := bc1 BK276; have hfz82_0 := bf BK276 0; have hfz82_1 := bf BK276 1) | (go_at_call 20; (with_reducible refine (graph_Check.calls k a0_0 _ _ l0_1 t278 t279 _ ?side1 ?side2 A3.out).mono ?_); (case side1 => exact Kd.C_below HR0_1.out lb); (case side2 => exact HC0_1.out); rintro e w83 ⟨rfl, hb⟩; have n_ := a3 (blk_below (bx BK276.out) hb) (blk_below (bx BK277.out) hb) (below_step lb hb); clear BK276 BK277 HB; obtain ⟨BK276, BK277, HB⟩ := n_; (try clear hb); (try clear hb2); (try clear hk); (try clear hi)) | ((with_reducible refine gate_dst (N := 6) rfl ?_); (try (refine gate_guard (by rfl) ?_; dsimp only)); refine box_event ?hg (N := 6) ?hd (cs := #[.int .i64 0, .int .i64 0]) (t := 53) ?hr ?_; (case hd => rfl); (case hg => rfl); (case hr => first | (go_simp; done) | (go_simp; rfl)); intro gb280 hg w84 hbox hb; have n_ := a10 (blk_below (bx BK276.out) hb) (blk_below (bx BK277.out) hb) (below_step lb hb) hbox (gw w hg) (gw w hg) (nl hg BK276) (nr hg BK276) (nl hg BK277) (nr hg BK277); clear BK276 BK277 HB; obtain ⟨BK276, BK277, HB, BK280, GW280, GE280, NB276_280, NB280_276, NB277_280, NB280_277⟩ := n_; clear hb hbox hg; have hnb85 := NB280_276.out; have hnc85 := NB276_280.out; have hnb86 := NB280_277.out; have hnc86 := NB277_280.out; have hcz87_0 := bc0 BK280; have hcz87_1 := bc1 BK280; have hfz87_0 := bf BK280 0; have hfz87_1 := bf BK280 1)); try go_wp2_with (first | ((with_reducible refine gate_dst (N := 2) rfl ?_); (try (refine gate_guard (by rfl) ?_; dsimp only)); refine box_event ?hg (N := 2) ?hd (cs := #[.int .i64 a0_0, .slice A0_1 l0_1.length c0_1]) (t := 24) ?hr ?_; (case hd => rfl); (case hg => rfl); (case hr => first | (go_simp; done) | (go_simp; rfl)); intro gb276 hg w79 hbox hb; have n_ := a4 (below_step lb hb) hbox (gw w hg) (gw w hg); clear HB; obtain ⟨HB, BK276, GW276, GE276⟩ := n_; clear hb hbox hg) | ((with_reducible refine gate_dst (N := 3) rfl ?_); (try (refine gate_guard (by rfl) ?_; dsimp only)); refine box_event ?hg (N := 3) ?hd (cs := #[.int .i64 a1_0, .slice A1_1 l1_1.length c1_1]) (t := 28) ?hr ?_; (case hd => rfl); (case hg => rfl); (case hr => first | (go_simp; done) | (go_simp; rfl)); intro gb277 hg w80 hbox hb; have n_ := a7 (blk_below (bx BK276.out) hb) (below_step lb hb) hbox (gw w hg) (gw w hg) (nl hg BK276) (nr hg BK276); clear BK276 HB; obtain ⟨BK276, HB, BK277, GW277, GE277, NB276_277, NB277_276⟩ := n_; clear hb hbox hg; have hnb81 := NB276_277.out; have hnc81 := NB277_276.out; have hcz82_0 := bc0 BK276; have hcz82_1 := bc1 BK276; have hfz82_0 := bf BK276 0; have hfz82_1 := bf BK276 1) | (go_at_call 20; (with_reducible refine (graph_Check.calls k a0_0 _ _ l0_1 t278 t279 _ ?side1 ?side2 A3.out).mono ?_); (case side1 => exact Kd.C_below HR0_1.out lb); (case side2 => exact HC0_1.out); rintro e w83 ⟨rfl, hb⟩; have n_ := a3 (blk_below (bx BK276.out) hb) (blk_below (bx BK277.out) hb) (below_step lb hb); clear BK276 BK277 HB; obtain ⟨BK276, BK277, HB⟩ := n_; (try clear hb); (try clear hb2); (try clear hk); (try clear hi)) | ((with_reducible refine gate_dst (N := 6) rfl ?_); (try (refine gate_guard (by rfl) ?_; dsimp only)); refine box_event ?hg (N := 6) ?hd (cs := #[.int .i64 0, .int .i64 0]) (t := 53) ?hr ?_; (case hd => rfl); (case hg => rfl); (case hr => first | (go_simp; done) | (go_simp; rfl)); intro gb280 hg w84 hbox hb; have n_ := a10 (blk_below (bx BK276.out) hb) (blk_below (bx BK277.out) hb) (below_step lb hb) hbox (gw w hg) (gw w hg) (nl hg BK276) (nr hg BK276) (nl hg BK277) (nr hg BK277); clear BK276 BK277 HB; obtain ⟨BK276, BK277, HB, BK280, GW280, GE280, NB276_280, NB280_276, NB277_280, NB280_277⟩ := n_; clear hb hbox hg; have hnb85 := NB280_276.out; have hnc85 := NB276_280.out; have hnb86 := NB280_277.out; have hnc86 := NB277_280.out; have hcz87_0 := bc0 BK280; have hcz87_1 := bc1 BK280; have hfz87_0 := bf BK280 0; have hfz87_1 := bf BK280 1)))
  go_ret2
  exact ⟨by first | rfl | (simp [errW_none, errW_some] <;> rfl) | (simp [*, errW_none, errW_some] <;> rfl), lb⟩

end Go.Proofs.Ytplbkggdnonfbaa.Q
