import Derived.Test.YtplbkggdnonfbaaQ0
import Derived.Test.YtplbkggdnonfbaaQ2
namespace Go.Proofs.Ytplbkggdnonfbaa.Q
open Go.RowKit Go.Proofs.YtplbkggdnonfbaaW.PrintWords Go.Proofs.YtplbkggdnonfbaaW.PrintLast Go.Proofs.YtplbkggdnonfbaaW.PrintMore
attribute [local go_sem] max2_int min2_int max_two min_two max_three min_three max_four min_four   -- for this text's walks alone
set_option linter.unusedVariables false
set_option linter.unusedSimpArgs false

/-! ### graph_Check: function 20 -/
mutual
def graph_Check.j0 : Nat → Bool → Int → List (S45) → Option (Int × Int)
  | 0, _, _, _ => none
  | k + 1, x18, x103000, x103001 => if x18 = true then (some (3, 0)) else (graph_Check.l0 k x103001 (x103001.length : Int) 0 x103000 x103001)
def graph_Check.l0 : Nat → List (S45) → Int → Int → Int → List (S45) → Option (Int × Int)
  | 0, _, _, _, _, _ => none
  | k + 1, x21, x22, x23, x103000, x103001 => if x23 < x22 then (if 0 ≤ x23 then (if x23 < (x21.length : Int) then (if ((rd_T45 x21 x23).f0) < 0 then (graph_Check.j2 k x23 x21 x22 x23 true x103000 x103001 ((rd_T45 x21 x23).f0) ((rd_T45 x21 x23).f1) ((rd_T45 x21 x23).f2) ((rd_T45 x21 x23).f3)) else (if ((rd_T45 x21 x23).f0) ≥ x103000 then (graph_Check.j2 k x23 x21 x22 x23 true x103000 x103001 ((rd_T45 x21 x23).f0) ((rd_T45 x21 x23).f1) ((rd_T45 x21 x23).f2) ((rd_T45 x21 x23).f3)) else (if ((rd_T45 x21 x23).f1) < 0 then (graph_Check.j2 k x23 x21 x22 x23 true x103000 x103001 ((rd_T45 x21 x23).f0) ((rd_T45 x21 x23).f1) ((rd_T45 x21 x23).f2) ((rd_T45 x21 x23).f3)) else (graph_Check.j2 k x23 x21 x22 x23 (decide (((rd_T45 x21 x23).f1) ≥ x103000)) x103000 x103001 ((rd_T45 x21 x23).f0) ((rd_T45 x21 x23).f1) ((rd_T45 x21 x23).f2) ((rd_T45 x21 x23).f3))))) else (none)) else (none)) else (some (0, 0))
def graph_Check.j2 : Nat → Int → List (S45) → Int → Int → Bool → Int → List (S45) → Int → Int → Int → Int → Option (Int × Int)
  | 0, _, _, _, _, _, _, _, _, _, _, _ => none
  | k + 1, x3, x21, x22, x23, x28, x103000, x103001, x106000, x106001, x106002, x106003 => if x28 = true then (some (30, x3)) else ((graph_label.f x106000 x106001 x106002 x106003).bind fun t106 => (if t106 = true then (graph_Check.l0 k x21 x22 (wrap64 (x23 + 1)) x103000 x103001) else (some (31, x3))))
end
def graph_Check.f (k : Nat) (a0_0 : Int) (l0_1 : List (S45)) : Option (Int × Int) := if a0_0 < 0 then (graph_Check.j0 k true a0_0 l0_1) else (if a0_0 > 1024 then (graph_Check.j0 k true a0_0 l0_1) else (graph_Check.j0 k (decide ((l0_1.length : Int) > 4096)) a0_0 l0_1))
theorem graph_Check.mono_l : ∀ k, (∀ y0 y1 y2, LeO (graph_Check.j0 k y0 y1 y2) (graph_Check.j0 (k + 1) y0 y1 y2)) ∧ (∀ y0 y1 y2 y3 y4, LeO (graph_Check.l0 k y0 y1 y2 y3 y4) (graph_Check.l0 (k + 1) y0 y1 y2 y3 y4)) ∧ (∀ y0 y1 y2 y3 y4 y5 y6 y7 y8 y9 y10, LeO (graph_Check.j2 k y0 y1 y2 y3 y4 y5 y6 y7 y8 y9 y10) (graph_Check.j2 (k + 1) y0 y1 y2 y3 y4 y5 y6 y7 y8 y9 y10))
  | 0 => ⟨fun _ _ _ r h => by simp [graph_Check.j0] at h, fun _ _ _ _ _ r h => by simp [graph_Check.l0] at h, fun _ _ _ _ _ _ _ _ _ _ _ r h => by simp [graph_Check.j2] at h⟩
  | k + 1 => by
    obtain ⟨ih0, ih1, ih2⟩ := graph_Check.mono_l k
    refine ⟨?_, ?_, ?_⟩
    · intro y0 y1 y2
      unfold graph_Check.j0
      repeat' first
      | (with_reducible exact ih0 _ _ _)
      | (with_reducible exact ih1 _ _ _ _ _)
      | (with_reducible exact ih2 _ _ _ _ _ _ _ _ _ _ _)
      | (with_reducible exact LeO.refl _)
      | (with_reducible exact LeO.none _)
      | (with_reducible refine LeO.ite ?_ ?_)
      | (with_reducible refine LeO.bind ?_ (fun _ => ?_))
      | exact ih0 _ _ _
      | exact ih1 _ _ _ _ _
      | exact ih2 _ _ _ _ _ _ _ _ _ _ _
      | exact LeO.none _
      | refine LeO.ite ?_ ?_
      | refine LeO.bind ?_ (fun _ => ?_)
    · intro y0 y1 y2 y3 y4
      unfold graph_Check.l0
      repeat' first
      | (with_reducible exact ih0 _ _ _)
      | (with_reducible exact ih1 _ _ _ _ _)
      | (with_reducible exact ih2 _ _ _ _ _ _ _ _ _ _ _)
      | (with_reducible exact LeO.refl _)
      | (with_reducible exact LeO.none _)
      | (with_reducible refine LeO.ite ?_ ?_)
      | (with_reducible refine LeO.bind ?_ (fun _ => ?_))
      | exact ih0 _ _ _
      | exact ih1 _ _ _ _ _
      | exact ih2 _ _ _ _ _ _ _ _ _ _ _
      | exact LeO.none _
      | refine LeO.ite ?_ ?_
      | refine LeO.bind ?_ (fun _ => ?_)
    · intro y0 y1 y2 y3 y4 y5 y6 y7 y8 y9 y10
      unfold graph_Check.j2
      repeat' first
      | (with_reducible exact ih0 _ _ _)
      | (with_reducible exact ih1 _ _ _ _ _)
      | (with_reducible exact ih2 _ _ _ _ _ _ _ _ _ _ _)
      | (with_reducible exact LeO.refl _)
      | (with_reducible exact LeO.none _)
      | (with_reducible refine LeO.ite ?_ ?_)
      | (with_reducible refine LeO.bind ?_ (fun _ => ?_))
      | exact ih0 _ _ _
      | exact ih1 _ _ _ _ _
      | exact ih2 _ _ _ _ _ _ _ _ _ _ _
      | exact LeO.none _
      | refine LeO.ite ?_ ?_
      | refine LeO.bind ?_ (fun _ => ?_)
theorem graph_Check.mono : ∀ a0 a1 k, LeO (graph_Check.f k a0 a1) (graph_Check.f (k + 1) a0 a1) := by
  intro a0 a1 k
  obtain ⟨ih0, ih1, ih2⟩ := graph_Check.mono_l k
  unfold graph_Check.f
  repeat' first
      | (with_reducible exact ih0 _ _ _)
      | (with_reducible exact ih1 _ _ _ _ _)
      | (with_reducible exact ih2 _ _ _ _ _ _ _ _ _ _ _)
      | (with_reducible exact LeO.refl _)
      | (with_reducible exact LeO.none _)
      | (with_reducible refine LeO.ite ?_ ?_)
      | (with_reducible refine LeO.bind ?_ (fun _ => ?_))
      | exact ih0 _ _ _
      | exact ih1 _ _ _ _ _
      | exact ih2 _ _ _ _ _ _ _ _ _ _ _
      | exact LeO.none _
      | refine LeO.ite ?_ ?_
      | refine LeO.bind ?_ (fun _ => ?_)
set_option maxHeartbeats 8000000 in
set_option maxRecDepth 100000 in
theorem graph_Check.calls (k : Nat) (a0_0 : Int) (A0_1 : Option Addr) (c0_1 : Nat) (l0_1 : List (S45)) (r1 : Int) (r2 : Int) (w : World) (hr0_1 : Kd.C k45 w A0_1 l0_1.length l0_1) (hc0_1 : l0_1.length ≤ c0_1) (h : graph_Check.f k a0_0 l0_1 = some (r1, r2)) :
    Calls Try.prog 20 #[.agg #[.int .i64 a0_0, .slice A0_1 l0_1.length c0_1]] w fun e w' => e = .returned (.agg #[.int .i64 r1, .int .i64 r2]) ∧ Below w.heap.size w w' := by
 have hu24 := Try.underlying24; have hu53 := Try.underlying53; have hu45 := Try.underlying45; have HR0_1 := ak hr0_1; have HC0_1 := ak hc0_1; clear hr0_1 hc0_1; have HB := ak (Below.refl w.heap.size w); have H : (if a0_0 < 0 then (graph_Check.j0 k true a0_0 l0_1) else (if a0_0 > 1024 then (graph_Check.j0 k true a0_0 l0_1) else (graph_Check.j0 k (decide ((l0_1.length : Int) > 4096)) a0_0 l0_1))) = some (r1, r2) := h; clear h; have HC2 := ak H; clear H
 go_enter Try.func20, Try.ntmps20
 go_upto_region 1 with (first | ((with_reducible refine gate_dst (N := 1) rfl ?_); (try (refine gate_guard (by rfl) ?_; dsimp only)); refine box_event ?hg (N := 1) ?hd (cs := #[.int .i64 a0_0, .slice A0_1 l0_1.length c0_1]) (t := 24) ?hr ?_; (case hd => rfl); (case hg => rfl); (case hr => first | (go_simp; done) | (go_simp; rfl)); intro gb102 hg w3 hbox hb; have n_ := a4 (below_step lb hb) hbox (gw w hg) (gw w hg); clear HB; obtain ⟨HB, BK102, GW102, GE102⟩ := n_; clear hb hbox hg) | ((with_reducible refine gate_dst (N := 2) rfl ?_); (try (refine gate_guard (by rfl) ?_; dsimp only)); refine box_event ?hg (N := 2) ?hd (cs := #[.int .i64 0, .int .i64 0]) (t := 53) ?hr ?_; (case hd => rfl); (case hg => rfl); (case hr => first | (go_simp; done) | (go_simp; rfl)); intro gb103 hg w4 hbox hb; have n_ := a7 (blk_below (bx BK102.out) hb) (below_step lb hb) hbox (gw w hg) (gw w hg) (nl hg BK102) (nr hg BK102); clear BK102 HB; obtain ⟨BK102, HB, BK103, GW103, GE103, NB102_103, NB103_102⟩ := n_; clear hb hbox hg))
 (try simp only [Act.put, sA, sZ, sS])
 go_cut [18] (fun v18 wc => ∃ (kq : Nat) (x18_1 : Bool), v18 = .bool x18_1 ∧ Aside0 (graph_Check.j0 kq x18_1 a0_0 l0_1 = some (r1, r2)) ∧ Aside0 (kq ≤ k) ∧ Aside0 (wc.heap[gb102]? = some (.cells #[.int .i64 a0_0, (.slice A0_1 l0_1.length c0_1)] 24 (0, 0))) ∧ Aside0 (wc.heap[gb103]? = some (.cells #[.int .i64 0, .int .i64 0] 53 (0, 0))) ∧ Aside0 (Below w.heap.size w wc))
 case first =>
  have H := HC2.out; clear HC2
  by_cases c5 : a0_0 < 0
  ·
   rw [if_pos c5] at H; have c5b0 := decide_eq_true c5; clear c5
   (first | rw [c5b0] | (simp only [i64_w, i32_w]; rw [c5b0]) | skip)
   have H' := ak H; clear H; have hnb6 := NB102_103.out; have hnc6 := NB103_102.out; have hcz7_0 := bc0 BK102; have hcz7_1 := bc1 BK102; have hfz7_0 := bf BK102 0; have hfz7_1 := bf BK102 1
   go_wp2
   go_meet
   case rel => exact ⟨_, (true), (by first | rfl | (simp [*]; done)), H', ⟨by first | omega | exact Nat.le_refl _⟩, ⟨bx BK102.out⟩, ⟨bx BK103.out⟩, ⟨lb⟩⟩
  ·
   rw [if_neg c5] at H; have c5b0 : decide (a0_0 < 0) = false := decide_eq_false c5; clear c5
   (first | rw [c5b0] | (simp only [i64_w, i32_w]; rw [c5b0]) | skip)
   by_cases c8 : a0_0 > 1024
   ·
    rw [if_pos c8] at H; have c8b0 := decide_eq_true c8; clear c8; have H' := ak H; clear H; have hnb9 := NB102_103.out; have hnc9 := NB103_102.out; have hcz10_0 := bc0 BK102; have hcz10_1 := bc1 BK102; have hfz10_0 := bf BK102 0; have hfz10_1 := bf BK102 1
    go_wp2
    go_meet
    case rel => exact ⟨_, (true), (by first | rfl | (simp [*]; done)), H', ⟨by first | omega | exact Nat.le_refl _⟩, ⟨bx BK102.out⟩, ⟨bx BK103.out⟩, ⟨lb⟩⟩
   ·
    rw [if_neg c8] at H; have c8b0 : decide (1024 < a0_0) = false := decide_eq_false c8; clear c8; have H' := ak H; clear H; have hnb11 := NB102_103.out; have hnc11 := NB103_102.out; have hcz12_0 := bc0 BK102; have hcz12_1 := bc1 BK102; have hfz12_0 := bf BK102 0; have hfz12_1 := bf BK102 1
    go_wp2
    go_meet
    case rel => exact ⟨_, (decide ((l0_1.length : Int) > 4096)), (by first | rfl | (simp [*]; done)), H', ⟨by first | omega | exact Nat.le_refl _⟩, ⟨bx BK102.out⟩, ⟨bx BK103.out⟩, ⟨lb⟩⟩
 case rest =>
  clear HC2; obtain ⟨kq, x18_1, rfl, HA, HJ1, BK102, BK103, HB⟩ := hcut
  cases kq with
  | zero => exact absurd HA.out (by simp [graph_Check.j0])
  | succ kj1 =>
   have H := HA.out; clear HA
   simp only [graph_Check.j0] at H
   by_cases c13 : x18_1 = true
   ·
    subst c13
    have H1 : (some (3, 0)) = some (r1, r2) := by rw [if_pos rfl] at H; exact H
    clear H; have H := H1; clear H1
    simp only [Option.some.injEq, Prod.mk.injEq] at H
    obtain ⟨rfl, rfl⟩ := H; have hnb14 := NB103_102.out; have hnc14 := NB102_103.out; have hcz15_0 := bc0 BK103; have hcz15_1 := bc1 BK103; have hfz15_0 := bf BK103 0; have hfz15_1 := bf BK103 1
    go_wp2
    refine bodyPost_ret (results_cell_row rfl _ _ gb103 53 #[.int .i64 3, .int .i64 0] (0, 0) _ rfl (by (with_reducible repeat (first | refine blk_drewN ?_ _ | refine blk_drew ?_ | refine blk_alloc ?_ _)); refine blk_put (cs := #[.int .i64 3, .int .i64 0]) ?_ 1 _ rfl; (with_reducible repeat (first | refine blk_drewN ?_ _ | refine blk_drew ?_ | refine blk_alloc ?_ _)); refine blk_put (cs := #[.int .i64 0, .int .i64 0]) ?_ 0 _ rfl; exact bx BK103.out) Try.underlying53 rfl (by kernel_rfl)) rfl ?_
    exact ⟨by first | rfl | (simp [errW_none, errW_some] <;> rfl) | (simp [*, errW_none, errW_some] <;> rfl), lb⟩
   ·
    replace c13 := Bool.eq_false_iff.mpr c13; subst c13
    have H1 : (graph_Check.l0 kj1 l0_1 (l0_1.length : Int) 0 a0_0 l0_1) = some (r1, r2) := by rw [if_neg (show ¬ (false = true) by decide)] at H; exact H
    clear H; have H := H1; clear H1; have H' := ak H; clear H; have hnb16 := NB102_103.out; have hnc16 := NB103_102.out; have hcz17_0 := bc0 BK102; have hcz17_1 := bc1 BK102; have hfz17_0 := bf BK102 0; have hfz17_1 := bf BK102 1
    go_wp2
    go_loopg [23] kj1 (fun kq v23 w' => ∃ (x23_2 : Int) (x104000_2 : Int) (x104001_2 : Int), v23 = .int .i64 x23_2 ∧ Aside0 (graph_Check.l0 kq l0_1 (l0_1.length : Int) x23_2 a0_0 l0_1 = some (r1, r2)) ∧ Aside0 (kq ≤ kj1) ∧ Aside0 (w'.heap[gb102]? = some (.cells #[.int .i64 a0_0, (.slice A0_1 l0_1.length c0_1)] 24 (0, 0))) ∧ Aside0 (w'.heap[gb103]? = some (.cells #[.int .i64 x104000_2, .int .i64 x104001_2] 53 (0, 0))) ∧ Aside0 (Below w.heap.size w w'))
    case atStart => exact ⟨(0), (0), (0), (by first | rfl | (simp [*]; done)), H', ⟨Nat.le_refl _⟩, ⟨bx BK102.out⟩, ⟨bx BK103.out⟩, ⟨lb⟩⟩
    case round =>
     clear H'; obtain ⟨x23_2, x104000_2, x104001_2, rfl, HA, HK2, BK102, BK103, HB⟩ := hrel
     cases gk with
     | zero => exact absurd HA.out (by simp [graph_Check.l0])
     | succ k2 =>
      have H := HA.out; clear HA
      simp only [graph_Check.l0] at H
      by_cases c18 : x23_2 < (l0_1.length : Int)
      ·
       rw [if_pos c18] at H; have c18b0 := decide_eq_true c18; clear c18; replace H := ifd H; obtain ⟨c19b0, H⟩ := H; replace H := ifd H; obtain ⟨c20b0, H⟩ := H; have HC21 := ak H; clear H; have p104 : 0 ≤ (x23_2 : Int) := oda; have q104 : x23_2 < (l0_1.length : Int) := oda; obtain ⟨ad104, e104, hx104_0, hx104_1, hx104_2, hx104_3⟩ := at_T45 HR0_1.out x23_2 p104 q104; cases e104
       (try replace hx104_0 := hbc HB hx104_0)
       (try replace hx104_1 := hbc HB hx104_1)
       (try replace hx104_2 := hbc HB hx104_2)
       (try replace hx104_3 := hbc HB hx104_3)
       replace p104 := eq_true p104; replace q104 := eq_true q104
       go_upto_region 6 with (first | ((with_reducible refine gate_dst (N := 4) rfl ?_); (try (refine gate_guard (by rfl) ?_; dsimp only)); refine box_event ?hg (N := 4) ?hd (cs := #[.int .i64 0, .int .i64 0, .int .i64 0, .int .i64 0]) (t := 45) ?hr ?_; (case hd => rfl); (case hg => rfl); (case hr => first | (go_simp; done) | (go_simp; rfl)); intro gb105 hg w22 hbox hb; have n_ := a10 (blk_below (bx BK102.out) hb) (blk_below (bx BK103.out) hb) (below_step lb hb) hbox (gw w hg) (gw w hg) (nl hg BK102) (nr hg BK102) (nl hg BK103) (nr hg BK103); clear BK102 BK103 HB; obtain ⟨BK102, BK103, HB, BK105, GW105, GE105, NB102_105, NB105_102, NB103_105, NB105_103⟩ := n_; clear hb hbox hg; have hnb23 := NB105_102.out; have hnc23 := NB102_105.out; have hnb24 := NB105_103.out; have hnc24 := NB103_105.out; have hcz25_0 := bc0 BK105; have hcz25_1 := bc1 BK105; have hcz25_2 := bc2 BK105; have hcz25_3 := bc3 BK105; have hfz25_0 := bf BK105 0; have hfz25_1 := bf BK105 1; have hfz25_2 := bf BK105 2; have hfz25_3 := bf BK105 3))
       (try simp only [Act.put, sA, sZ, sS])
       go_cut [28] (fun v28 wc => ∃ (kq : Nat) (x28_20 : Bool), v28 = .bool x28_20 ∧ Aside0 (graph_Check.j2 kq x23_2 l0_1 (l0_1.length : Int) x23_2 x28_20 a0_0 l0_1 ((rd_T45 l0_1 x23_2).f0) ((rd_T45 l0_1 x23_2).f1) ((rd_T45 l0_1 x23_2).f2) ((rd_T45 l0_1 x23_2).f3) = some (r1, r2)) ∧ Aside0 (kq ≤ k2) ∧ Aside0 (wc.heap[gb102]? = some (.cells #[.int .i64 a0_0, (.slice (some ad104) l0_1.length c0_1)] 24 (0, 0))) ∧ Aside0 (wc.heap[gb103]? = some (.cells #[.int .i64 x104000_2, .int .i64 x104001_2] 53 (0, 0))) ∧ Aside0 (wc.heap[gb105]? = some (.cells #[.int .i64 ((rd_T45 l0_1 x23_2).f0), .int .i64 ((rd_T45 l0_1 x23_2).f1), .int .i64 ((rd_T45 l0_1 x23_2).f2), .int .i64 ((rd_T45 l0_1 x23_2).f3)] 45 (0, 0))) ∧ Aside0 (Below w.heap.size w wc))
       case first =>
        have H := HC21.out; clear HC21
        by_cases c26 : ((rd_T45 l0_1 x23_2).f0) < 0
        ·
         rw [if_pos c26] at H; have c26b0 := decide_eq_true c26; clear c26
         (first | rw [c26b0] | (simp only [i64_w, i32_w]; rw [c26b0]) | skip)
         have H' := ak H; clear H; have hnb27 := NB105_102.out; have hnc27 := NB102_105.out; have hnb28 := NB105_103.out; have hnc28 := NB103_105.out; have hcz29_0 := bc0 BK105; have hcz29_1 := bc1 BK105; have hcz29_2 := bc2 BK105; have hcz29_3 := bc3 BK105; have hfz29_0 := bf BK105 0; have hfz29_1 := bf BK105 1; have hfz29_2 := bf BK105 2; have hfz29_3 := bf BK105 3
         go_wp2
         go_meet
         case rel => exact ⟨_, (true), (by first | rfl | (simp [*]; done)), H', ⟨by have := HJ1.out; have := HK2.out; first | omega | exact Nat.le_refl _⟩, ⟨by (with_reducible repeat (first | refine blk_drewN ?_ _ | refine blk_drew ?_ | refine blk_alloc ?_ _)); refine blk_far ?_ NB102_105.out _; (with_reducible repeat (first | refine blk_drewN ?_ _ | refine blk_drew ?_ | refine blk_alloc ?_ _)); refine blk_far ?_ NB102_105.out _; (with_reducible repeat (first | refine blk_drewN ?_ _ | refine blk_drew ?_ | refine blk_alloc ?_ _)); refine blk_far ?_ NB102_105.out _; (with_reducible repeat (first | refine blk_drewN ?_ _ | refine blk_drew ?_ | refine blk_alloc ?_ _)); refine blk_far ?_ NB102_105.out _; exact bx BK102.out⟩, ⟨by (with_reducible repeat (first | refine blk_drewN ?_ _ | refine blk_drew ?_ | refine blk_alloc ?_ _)); refine blk_far ?_ NB103_105.out _; (with_reducible repeat (first | refine blk_drewN ?_ _ | refine blk_drew ?_ | refine blk_alloc ?_ _)); refine blk_far ?_ NB103_105.out _; (with_reducible repeat (first | refine blk_drewN ?_ _ | refine blk_drew ?_ | refine blk_alloc ?_ _)); refine blk_far ?_ NB103_105.out _; (with_reducible repeat (first | refine blk_drewN ?_ _ | refine blk_drew ?_ | refine blk_alloc ?_ _)); refine blk_far ?_ NB103_105.out _; exact bx BK103.out⟩, ⟨by (with_reducible repeat (first | refine blk_drewN ?_ _ | refine blk_drew ?_ | refine blk_alloc ?_ _)); refine blk_put (cs := #[.int .i64 ((rd_T45 l0_1 x23_2).f0), .int .i64 ((rd_T45 l0_1 x23_2).f1), .int .i64 ((rd_T45 l0_1 x23_2).f2), .int .i64 0]) ?_ 3 _ rfl; (with_reducible repeat (first | refine blk_drewN ?_ _ | refine blk_drew ?_ | refine blk_alloc ?_ _)); refine blk_put (cs := #[.int .i64 ((rd_T45 l0_1 x23_2).f0), .int .i64 ((rd_T45 l0_1 x23_2).f1), .int .i64 0, .int .i64 0]) ?_ 2 _ rfl; (with_reducible repeat (first | refine blk_drewN ?_ _ | refine blk_drew ?_ | refine blk_alloc ?_ _)); refine blk_put (cs := #[.int .i64 ((rd_T45 l0_1 x23_2).f0), .int .i64 0, .int .i64 0, .int .i64 0]) ?_ 1 _ rfl; (with_reducible repeat (first | refine blk_drewN ?_ _ | refine blk_drew ?_ | refine blk_alloc ?_ _)); refine blk_put (cs := #[.int .i64 0, .int .i64 0, .int .i64 0, .int .i64 0]) ?_ 0 _ rfl; exact bx BK105.out⟩, ⟨lb⟩⟩
        ·
         rw [if_neg c26] at H; have c26b0 : decide (((rd_T45 l0_1 x23_2).f0) < 0) = false := decide_eq_false c26; clear c26
         (first | rw [c26b0] | (simp only [i64_w, i32_w]; rw [c26b0]) | skip)
         by_cases c30 : ((rd_T45 l0_1 x23_2).f0) ≥ a0_0
         ·
          rw [if_pos c30] at H; have c30b0 := decide_eq_true c30; clear c30; have H' := ak H; clear H; have hnb31 := NB105_102.out; have hnc31 := NB102_105.out; have hnb32 := NB105_103.out; have hnc32 := NB103_105.out; have hcz33_0 := bc0 BK105; have hcz33_1 := bc1 BK105; have hcz33_2 := bc2 BK105; have hcz33_3 := bc3 BK105; have hfz33_0 := bf BK105 0; have hfz33_1 := bf BK105 1; have hfz33_2 := bf BK105 2; have hfz33_3 := bf BK105 3; have hnb34 := NB102_103.out; have hnc34 := NB103_102.out; have hcz35_0 := bc0 BK102; have hcz35_1 := bc1 BK102; have hfz35_0 := bf BK102 0; have hfz35_1 := bf BK102 1
          go_wp2
          go_meet
          case rel => exact ⟨_, (true), (by first | rfl | (simp [*]; done)), H', ⟨by have := HJ1.out; have := HK2.out; first | omega | exact Nat.le_refl _⟩, ⟨by (with_reducible repeat (first | refine blk_drewN ?_ _ | refine blk_drew ?_ | refine blk_alloc ?_ _)); refine blk_far ?_ NB102_105.out _; (with_reducible repeat (first | refine blk_drewN ?_ _ | refine blk_drew ?_ | refine blk_alloc ?_ _)); refine blk_far ?_ NB102_105.out _; (with_reducible repeat (first | refine blk_drewN ?_ _ | refine blk_drew ?_ | refine blk_alloc ?_ _)); refine blk_far ?_ NB102_105.out _; (with_reducible repeat (first | refine blk_drewN ?_ _ | refine blk_drew ?_ | refine blk_alloc ?_ _)); refine blk_far ?_ NB102_105.out _; exact bx BK102.out⟩, ⟨by (with_reducible repeat (first | refine blk_drewN ?_ _ | refine blk_drew ?_ | refine blk_alloc ?_ _)); refine blk_far ?_ NB103_105.out _; (with_reducible repeat (first | refine blk_drewN ?_ _ | refine blk_drew ?_ | refine blk_alloc ?_ _)); refine blk_far ?_ NB103_105.out _; (with_reducible repeat (first | refine blk_drewN ?_ _ | refine blk_drew ?_ | refine blk_alloc ?_ _)); refine blk_far ?_ NB103_105.out _; (with_reducible repeat (first | refine blk_drewN ?_ _ | refine blk_drew ?_ | refine blk_alloc ?_ _)); refine blk_far ?_ NB103_105.out _; exact bx BK103.out⟩, ⟨by (with_reducible repeat (first | refine blk_drewN ?_ _ | refine blk_drew ?_ | refine blk_alloc ?_ _)); refine blk_put (cs := #[.int .i64 ((rd_T45 l0_1 x23_2).f0), .int .i64 ((rd_T45 l0_1 x23_2).f1), .int .i64 ((rd_T45 l0_1 x23_2).f2), .int .i64 0]) ?_ 3 _ rfl; (with_reducible repeat (first | refine blk_drewN ?_ _ | refine blk_drew ?_ | refine blk_alloc ?_ _)); refine blk_put (cs := #[.int .i64 ((rd_T45 l0_1 x23_2).f0), .int .i64 ((rd_T45 l0_1 x23_2).f1), .int .i64 0, .int .i64 0]) ?_ 2 _ rfl; (with_reducible repeat (first | refine blk_drewN ?_ _ | refine blk_drew ?_ | refine blk_alloc ?_ _)); refine blk_put (cs := #[.int .i64 ((rd_T45 l0_1 x23_2).f0), .int .i64 0, .int .i64 0, .int .i64 0]) ?_ 1 _ rfl; (with_reducible repeat (first | refine blk_drewN ?_ _ | refine blk_drew ?_ | refine blk_alloc ?_ _)); refine blk_put (cs := #[.int .i64 0, .int .i64 0, .int .i64 0, .int .i64 0]) ?_ 0 _ rfl; exact bx BK105.out⟩, ⟨lb⟩⟩
         ·
          rw [if_neg c30] at H; have c30b0 : decide (a0_0 ≤ ((rd_T45 l0_1 x23_2).f0)) = false := decide_eq_false c30; clear c30
          by_cases c36 : ((rd_T45 l0_1 x23_2).f1) < 0
          ·
           rw [if_pos c36] at H; have c36b0 := decide_eq_true c36; clear c36; have H' := ak H; clear H; have hnb37 := NB105_102.out; have hnc37 := NB102_105.out; have hnb38 := NB105_103.out; have hnc38 := NB103_105.out; have hcz39_0 := bc0 BK105; have hcz39_1 := bc1 BK105; have hcz39_2 := bc2 BK105; have hcz39_3 := bc3 BK105; have hfz39_0 := bf BK105 0; have hfz39_1 := bf BK105 1; have hfz39_2 := bf BK105 2; have hfz39_3 := bf BK105 3; have hnb40 := NB102_103.out; have hnc40 := NB103_102.out; have hcz41_0 := bc0 BK102; have hcz41_1 := bc1 BK102; have hfz41_0 := bf BK102 0; have hfz41_1 := bf BK102 1
           go_wp2
           go_meet
           case rel => exact ⟨_, (true), (by first | rfl | (simp [*]; done)), H', ⟨by have := HJ1.out; have := HK2.out; first | omega | exact Nat.le_refl _⟩, ⟨by (with_reducible repeat (first | refine blk_drewN ?_ _ | refine blk_drew ?_ | refine blk_alloc ?_ _)); refine blk_far ?_ NB102_105.out _; (with_reducible repeat (first | refine blk_drewN ?_ _ | refine blk_drew ?_ | refine blk_alloc ?_ _)); refine blk_far ?_ NB102_105.out _; (with_reducible repeat (first | refine blk_drewN ?_ _ | refine blk_drew ?_ | refine blk_alloc ?_ _)); refine blk_far ?_ NB102_105.out _; (with_reducible repeat (first | refine blk_drewN ?_ _ | refine blk_drew ?_ | refine blk_alloc ?_ _)); refine blk_far ?_ NB102_105.out _; exact bx BK102.out⟩, ⟨by (with_reducible repeat (first | refine blk_drewN ?_ _ | refine blk_drew ?_ | refine blk_alloc ?_ _)); refine blk_far ?_ NB103_105.out _; (with_reducible repeat (first | refine blk_drewN ?_ _ | refine blk_drew ?_ | refine blk_alloc ?_ _)); refine blk_far ?_ NB103_105.out _; (with_reducible repeat (first | refine blk_drewN ?_ _ | refine blk_drew ?_ | refine blk_alloc ?_ _)); refine blk_far ?_ NB103_105.out _; (with_reducible repeat (first | refine blk_drewN ?_ _ | refine blk_drew ?_ | refine blk_alloc ?_ _)); refine blk_far ?_ NB103_105.out _; exact bx BK103.out⟩, ⟨by (with_reducible repeat (first | refine blk_drewN ?_ _ | refine blk_drew ?_ | refine blk_alloc ?_ _)); refine blk_put (cs := #[.int .i64 ((rd_T45 l0_1 x23_2).f0), .int .i64 ((rd_T45 l0_1 x23_2).f1), .int .i64 ((rd_T45 l0_1 x23_2).f2), .int .i64 0]) ?_ 3 _ rfl; (with_reducible repeat (first | refine blk_drewN ?_ _ | refine blk_drew ?_ | refine blk_alloc ?_ _)); refine blk_put (cs := #[.int .i64 ((rd_T45 l0_1 x23_2).f0), .int .i64 ((rd_T45 l0_1 x23_2).f1), .int .i64 0, .int .i64 0]) ?_ 2 _ rfl; (with_reducible repeat (first | refine blk_drewN ?_ _ | refine blk_drew ?_ | refine blk_alloc ?_ _)); refine blk_put (cs := #[.int .i64 ((rd_T45 l0_1 x23_2).f0), .int .i64 0, .int .i64 0, .int .i64 0]) ?_ 1 _ rfl; (with_reducible repeat (first | refine blk_drewN ?_ _ | refine blk_drew ?_ | refine blk_alloc ?_ _)); refine blk_put (cs := #[.int .i64 0, .int .i64 0, .int .i64 0, .int .i64 0]) ?_ 0 _ rfl; exact bx BK105.out⟩, ⟨lb⟩⟩
          ·
           rw [if_neg c36] at H; have c36b0 : decide (((rd_T45 l0_1 x23_2).f1) < 0) = false := decide_eq_false c36; clear c36; have H' := ak H; clear H; have hnb42 := NB105_102.out; have hnc42 := NB102_105.out; have hnb43 := NB105_103.out; have hnc43 := NB103_105.out; have hcz44_0 := bc0 BK105; have hcz44_1 := bc1 BK105; have hcz44_2 := bc2 BK105; have hcz44_3 := bc3 BK105; have hfz44_0 := bf BK105 0; have hfz44_1 := bf BK105 1; have hfz44_2 := bf BK105 2; have hfz44_3 := bf BK105 3; have hnb45 := NB102_103.out; have hnc45 := NB103_102.out; have hcz46_0 := bc0 BK102; have hcz46_1 := bc1 BK102; have hfz46_0 := bf BK102 0; have hfz46_1 := bf BK102 1
           go_wp2
           go_meet
           case rel => exact ⟨_, (decide (((rd_T45 l0_1 x23_2).f1) ≥ a0_0)), (by first | rfl | (simp [*]; done)), H', ⟨by have := HJ1.out; have := HK2.out; first | omega | exact Nat.le_refl _⟩, ⟨by (with_reducible repeat (first | refine blk_drewN ?_ _ | refine blk_drew ?_ | refine blk_alloc ?_ _)); refine blk_far ?_ NB102_105.out _; (with_reducible repeat (first | refine blk_drewN ?_ _ | refine blk_drew ?_ | refine blk_alloc ?_ _)); refine blk_far ?_ NB102_105.out _; (with_reducible repeat (first | refine blk_drewN ?_ _ | refine blk_drew ?_ | refine blk_alloc ?_ _)); refine blk_far ?_ NB102_105.out _; (with_reducible repeat (first | refine blk_drewN ?_ _ | refine blk_drew ?_ | refine blk_alloc ?_ _)); refine blk_far ?_ NB102_105.out _; exact bx BK102.out⟩, ⟨by (with_reducible repeat (first | refine blk_drewN ?_ _ | refine blk_drew ?_ | refine blk_alloc ?_ _)); refine blk_far ?_ NB103_105.out _; (with_reducible repeat (first | refine blk_drewN ?_ _ | refine blk_drew ?_ | refine blk_alloc ?_ _)); refine blk_far ?_ NB103_105.out _; (with_reducible repeat (first | refine blk_drewN ?_ _ | refine blk_drew ?_ | refine blk_alloc ?_ _)); refine blk_far ?_ NB103_105.out _; (with_reducible repeat (first | refine blk_drewN ?_ _ | refine blk_drew ?_ | refine blk_alloc ?_ _)); refine blk_far ?_ NB103_105.out _; exact bx BK103.out⟩, ⟨by (with_reducible repeat (first | refine blk_drewN ?_ _ | refine blk_drew ?_ | refine blk_alloc ?_ _)); refine blk_put (cs := #[.int .i64 ((rd_T45 l0_1 x23_2).f0), .int .i64 ((rd_T45 l0_1 x23_2).f1), .int .i64 ((rd_T45 l0_1 x23_2).f2), .int .i64 0]) ?_ 3 _ rfl; (with_reducible repeat (first | refine blk_drewN ?_ _ | refine blk_drew ?_ | refine blk_alloc ?_ _)); refine blk_put (cs := #[.int .i64 ((rd_T45 l0_1 x23_2).f0), .int .i64 ((rd_T45 l0_1 x23_2).f1), .int .i64 0, .int .i64 0]) ?_ 2 _ rfl; (with_reducible repeat (first | refine blk_drewN ?_ _ | refine blk_drew ?_ | refine blk_alloc ?_ _)); refine blk_put (cs := #[.int .i64 ((rd_T45 l0_1 x23_2).f0), .int .i64 0, .int .i64 0, .int .i64 0]) ?_ 1 _ rfl; (with_reducible repeat (first | refine blk_drewN ?_ _ | refine blk_drew ?_ | refine blk_alloc ?_ _)); refine blk_put (cs := #[.int .i64 0, .int .i64 0, .int .i64 0, .int .i64 0]) ?_ 0 _ rfl; exact bx BK105.out⟩, ⟨lb⟩⟩
       case rest =>
        clear HC21; obtain ⟨kq, x28_20, rfl, HA, HJ20, BK102, BK103, BK105, HB⟩ := hcut
        cases kq with
        | zero => exact absurd HA.out (by simp [graph_Check.j2])
        | succ kj20 =>
         have H := HA.out; clear HA
         simp only [graph_Check.j2] at H
         by_cases c47 : x28_20 = true
         ·
          subst c47
          have H1 : (some (30, x23_2)) = some (r1, r2) := by rw [if_pos rfl] at H; exact H
          clear H; have H := H1; clear H1
          simp only [Option.some.injEq, Prod.mk.injEq] at H
          obtain ⟨rfl, rfl⟩ := H; have hnb48 := NB103_102.out; have hnc48 := NB102_103.out; have hnb49 := NB103_105.out; have hnc49 := NB105_103.out; have hcz50_0 := bc0 BK103; have hcz50_1 := bc1 BK103; have hfz50_0 := bf BK103 0; have hfz50_1 := bf BK103 1
          go_wp2
          refine bodyPost_ret (results_cell_row rfl _ _ gb103 53 #[.int .i64 30, .int .i64 x23_2] (0, 0) _ rfl (by (with_reducible repeat (first | refine blk_drewN ?_ _ | refine blk_drew ?_ | refine blk_alloc ?_ _)); refine blk_put (cs := #[.int .i64 30, .int .i64 x104001_2]) ?_ 1 _ rfl; (with_reducible repeat (first | refine blk_drewN ?_ _ | refine blk_drew ?_ | refine blk_alloc ?_ _)); refine blk_put (cs := #[.int .i64 x104000_2, .int .i64 x104001_2]) ?_ 0 _ rfl; exact bx BK103.out) Try.underlying53 rfl (by kernel_rfl)) rfl ?_
          exact ⟨by first | rfl | (simp [errW_none, errW_some] <;> rfl) | (simp [*, errW_none, errW_some] <;> rfl), lb⟩
         ·
          replace c47 := Bool.eq_false_iff.mpr c47; subst c47
          have H1 : ((graph_label.f ((rd_T45 l0_1 x23_2).f0) ((rd_T45 l0_1 x23_2).f1) ((rd_T45 l0_1 x23_2).f2) ((rd_T45 l0_1 x23_2).f3)).bind fun t106 => (if t106 = true then (graph_Check.l0 kj20 l0_1 (l0_1.length : Int) (wrap64 (x23_2 + 1)) a0_0 l0_1) else (some (31, x23_2)))) = some (r1, r2) := by rw [if_neg (show ¬ (false = true) by decide)] at H; exact H
          clear H; have H := H1; clear H1; replace H := Option.bind_eq_some_iff.mp H; obtain ⟨t106, A510, H⟩ := H; replace H : (if t106 = true then (graph_Check.l0 kj20 l0_1 (l0_1.length : Int) (wrap64 (x23_2 + 1)) a0_0 l0_1) else (some (31, x23_2))) = some (r1, r2) := H; have A51 := ak A510; clear A510
          by_cases c52 : t106 = true
          ·
           subst c52
           have H1 : (graph_Check.l0 kj20 l0_1 (l0_1.length : Int) (wrap64 (x23_2 + 1)) a0_0 l0_1) = some (r1, r2) := by rw [if_pos rfl] at H; exact H
           clear H; have H := H1; clear H1; have H' := ak H; clear H; have hnb53 := NB105_102.out; have hnc53 := NB102_105.out; have hnb54 := NB105_103.out; have hnc54 := NB103_105.out; have hcz55_0 := bc0 BK105; have hcz55_1 := bc1 BK105; have hcz55_2 := bc2 BK105; have hcz55_3 := bc3 BK105; have hfz55_0 := bf BK105 0; have hfz55_1 := bf BK105 1; have hfz55_2 := bf BK105 2; have hfz55_3 := bf BK105 3
           go_wp2_with (first | ((with_reducible refine gate_callee (f := 30) rfl ?_); refine goesZ (some 55) rfl rfl Try.func30 (by kernel_rfl) rfl #[.agg #[.int .i64 ((rd_T45 l0_1 x23_2).f0), .int .i64 ((rd_T45 l0_1 x23_2).f1), .int .i64 ((rd_T45 l0_1 x23_2).f2), .int .i64 ((rd_T45 l0_1 x23_2).f3)]] rfl ?_; (with_reducible refine (graph_label.calls ((rd_T45 l0_1 x23_2).f0) ((rd_T45 l0_1 x23_2).f1) ((rd_T45 l0_1 x23_2).f2) ((rd_T45 l0_1 x23_2).f3) true _ A51.out).mono ?_); rintro e w56 ⟨rfl, hb⟩; refine ⟨_, rfl, ?_⟩; have n_ := a4 (blk_below (bx BK102.out) hb) (blk_below (bx BK103.out) hb) (blk_below (bx BK105.out) hb) (below_step lb hb); clear BK102 BK103 BK105 HB; obtain ⟨BK102, BK103, BK105, HB⟩ := n_; (try clear hb); (try clear hb2); (try clear hk); (try clear hi)))
           go_roundg kj20
           case measure => have := HJ1.out; have := HK2.out; have := HJ20.out; omega
           case rel => exact ⟨(wrap64 (x23_2 + 1)), (x104000_2), (x104001_2), (by first | rfl | (simp [*]; done)), H', ⟨by have := HJ1.out; have := HK2.out; have := HJ20.out; omega⟩, ⟨bx BK102.out⟩, ⟨bx BK103.out⟩, ⟨lb⟩⟩
          ·
           replace c52 := Bool.eq_false_iff.mpr c52; subst c52
           have H1 : (some (31, x23_2)) = some (r1, r2) := by rw [if_neg (show ¬ (false = true) by decide)] at H; exact H
           clear H; have H := H1; clear H1
           simp only [Option.some.injEq, Prod.mk.injEq] at H
           obtain ⟨rfl, rfl⟩ := H; have hnb57 := NB105_102.out; have hnc57 := NB102_105.out; have hnb58 := NB105_103.out; have hnc58 := NB103_105.out; have hcz59_0 := bc0 BK105; have hcz59_1 := bc1 BK105; have hcz59_2 := bc2 BK105; have hcz59_3 := bc3 BK105; have hfz59_0 := bf BK105 0; have hfz59_1 := bf BK105 1; have hfz59_2 := bf BK105 2; have hfz59_3 := bf BK105 3
           go_wp2_with (first | ((with_reducible refine gate_callee (f := 30) rfl ?_); refine goesZ (some 55) rfl rfl Try.func30 (by kernel_rfl) rfl #[.agg #[.int .i64 ((rd_T45 l0_1 x23_2).f0), .int .i64 ((rd_T45 l0_1 x23_2).f1), .int .i64 ((rd_T45 l0_1 x23_2).f2), .int .i64 ((rd_T45 l0_1 x23_2).f3)]] rfl ?_; (with_reducible refine (graph_label.calls ((rd_T45 l0_1 x23_2).f0) ((rd_T45 l0_1 x23_2).f1) ((rd_T45 l0_1 x23_2).f2) ((rd_T45 l0_1 x23_2).f3) false _ A51.out).mono ?_); rintro e w60 ⟨rfl, hb⟩; refine ⟨_, rfl, ?_⟩; have n_ := a4 (blk_below (bx BK102.out) hb) (blk_below (bx BK103.out) hb) (blk_below (bx BK105.out) hb) (below_step lb hb); clear BK102 BK103 BK105 HB; obtain ⟨BK102, BK103, BK105, HB⟩ := n_; (try clear hb); (try clear hb2); (try clear hk); (try clear hi); have hnb61 := NB103_102.out; have hnc61 := NB102_103.out; have hcz62_0 := bc0 BK103; have hcz62_1 := bc1 BK103; have hfz62_0 := bf BK103 0; have hfz62_1 := bf BK103 1))
           refine bodyPost_ret (results_cell_row rfl _ _ gb103 53 #[.int .i64 31, .int .i64 x23_2] (0, 0) _ rfl (by (with_reducible repeat (first | refine blk_drewN ?_ _ | refine blk_drew ?_ | refine blk_alloc ?_ _)); refine blk_put (cs := #[.int .i64 31, .int .i64 x104001_2]) ?_ 1 _ rfl; (with_reducible repeat (first | refine blk_drewN ?_ _ | refine blk_drew ?_ | refine blk_alloc ?_ _)); refine blk_put (cs := #[.int .i64 x104000_2, .int .i64 x104001_2]) ?_ 0 _ rfl; exact bx BK103.out) Try.underlying53 rfl (by kernel_rfl)) rfl ?_
           exact ⟨by first | rfl | (simp [errW_none, errW_some] <;> rfl) | (simp [*, errW_none, errW_some] <;> rfl), lb⟩
      ·
       rw [if_neg c18] at H; have c18b0 : decide (x23_2 < (l0_1.length : Int)) = false := decide_eq_false c18; clear c18
       simp only [Option.some.injEq, Prod.mk.injEq] at H
       obtain ⟨rfl, rfl⟩ := H; have hnb63 := NB103_102.out; have hnc63 := NB102_103.out; have hcz64_0 := bc0 BK103; have hcz64_1 := bc1 BK103; have hfz64_0 := bf BK103 0; have hfz64_1 := bf BK103 1
       go_wp2
       refine bodyPost_ret (results_cell_row rfl _ _ gb103 53 #[.int .i64 0, .int .i64 0] (0, 0) _ rfl (by (with_reducible repeat (first | refine blk_drewN ?_ _ | refine blk_drew ?_ | refine blk_alloc ?_ _)); refine blk_put (cs := #[.int .i64 0, .int .i64 x104001_2]) ?_ 1 _ rfl; (with_reducible repeat (first | refine blk_drewN ?_ _ | refine blk_drew ?_ | refine blk_alloc ?_ _)); refine blk_put (cs := #[.int .i64 x104000_2, .int .i64 x104001_2]) ?_ 0 _ rfl; exact bx BK103.out) Try.underlying53 rfl (by kernel_rfl)) rfl ?_
       exact ⟨by first | rfl | (simp [errW_none, errW_some] <;> rfl) | (simp [*, errW_none, errW_some] <;> rfl), lb⟩

end Go.Proofs.Ytplbkggdnonfbaa.Q
