import Derived.Test.YtplbkggdnonfbaaQ0
namespace Go.Proofs.Ytplbkggdnonfbaa.Q
open Go.RowKit Go.Proofs.YtplbkggdnonfbaaW.PrintWords Go.Proofs.YtplbkggdnonfbaaW.PrintLast Go.Proofs.YtplbkggdnonfbaaW.PrintMore
attribute [local go_sem] max2_int min2_int max_two min_two max_three min_three max_four min_four   -- for this text's walks alone
set_option linter.unusedVariables false
set_option linter.unusedSimpArgs false

/-! ### euler_uneven: function 21 -/
mutual
def euler_uneven.l0 : Nat → Bool → List Int → List (S45) → Int → Int → Option (Int × Bool)
  | 0, _, _, _, _, _ => none
  | k + 1, x1, x6, x15, x16, x17 => if x17 < x16 then (if 0 ≤ x17 then (if x17 < (x15.length : Int) then (if 0 ≤ ((rd_T45 x15 x17).f0) then (if ((rd_T45 x15 x17).f0) < (x6.length : Int) then ((some (x6.set (((rd_T45 x15 x17).f0) : Int).toNat (wrap64 ((rd x6 ((rd_T45 x15 x17).f0)) + 1)) : List Int)).bind fun y114 => (if x1 = true then (if 0 ≤ ((rd_T45 x15 x17).f1) then (if ((rd_T45 x15 x17).f1) < (x6.length : Int) then (euler_uneven.l0 k x1 (y114.set (((rd_T45 x15 x17).f1) : Int).toNat (wrap64 ((rd y114 ((rd_T45 x15 x17).f1)) - 1))) x15 x16 (wrap64 (x17 + 1))) else (none)) else (none)) else (if 0 ≤ ((rd_T45 x15 x17).f1) then (if ((rd_T45 x15 x17).f1) < (x6.length : Int) then (euler_uneven.l0 k x1 (y114.set (((rd_T45 x15 x17).f1) : Int).toNat (wrap64 ((rd y114 ((rd_T45 x15 x17).f1)) + 1))) x15 x16 (wrap64 (x17 + 1))) else (none)) else (none)))) else (none)) else (none)) else (none)) else (none)) else (euler_uneven.l1 k x1 x6 (x6.length : Int) 0)
def euler_uneven.l1 : Nat → Bool → List Int → Int → Int → Option (Int × Bool)
  | 0, _, _, _, _ => none
  | k + 1, x1, x44, x45, x46 => if x46 < x45 then (if 0 ≤ x46 then (if x46 < (x44.length : Int) then (if x1 = true then (if (rd x44 x46) = 0 then (if (Go.bits .and .i64 (rd x44 x46) 1) = 1 then (some (x46, true)) else (euler_uneven.l1 k x1 x44 x45 (wrap64 (x46 + 1)))) else (some (x46, true))) else (if (Go.bits .and .i64 (rd x44 x46) 1) = 1 then (some (x46, true)) else (euler_uneven.l1 k x1 x44 x45 (wrap64 (x46 + 1))))) else (none)) else (none)) else (some (0, false))
end
def euler_uneven.f (k : Nat) (a0_0 : Int) (l0_1 : List (S45)) (a1 : Bool) : Option (Int × Bool) := if 0 ≤ a0_0 then (if (a0_0 : Int).toNat ≤ 35184372088832 then (euler_uneven.l0 k a1 (List.replicate (a0_0 : Int).toNat 0) l0_1 (l0_1.length : Int) 0) else (none)) else (none)
theorem euler_uneven.mono_l : ∀ k, (∀ y0 y1 y2 y3 y4, LeO (euler_uneven.l0 k y0 y1 y2 y3 y4) (euler_uneven.l0 (k + 1) y0 y1 y2 y3 y4)) ∧ (∀ y0 y1 y2 y3, LeO (euler_uneven.l1 k y0 y1 y2 y3) (euler_uneven.l1 (k + 1) y0 y1 y2 y3))
  | 0 => ⟨fun _ _ _ _ _ r h => by simp [euler_uneven.l0] at h, fun _ _ _ _ r h => by simp [euler_uneven.l1] at h⟩
  | k + 1 => by
    obtain ⟨ih0, ih1⟩ := euler_uneven.mono_l k
    refine ⟨?_, ?_⟩
    · intro y0 y1 y2 y3 y4
      unfold euler_uneven.l0
      repeat' first
      | (with_reducible exact ih0 _ _ _ _ _)
      | (with_reducible exact ih1 _ _ _ _)
      | (with_reducible exact LeO.refl _)
      | (with_reducible exact LeO.none _)
      | (with_reducible refine LeO.ite ?_ ?_)
      | (with_reducible refine LeO.bind ?_ (fun _ => ?_))
      | exact ih0 _ _ _ _ _
      | exact ih1 _ _ _ _
      | exact LeO.none _
      | refine LeO.ite ?_ ?_
      | refine LeO.bind ?_ (fun _ => ?_)
    · intro y0 y1 y2 y3
      unfold euler_uneven.l1
      repeat' first
      | (with_reducible exact ih0 _ _ _ _ _)
      | (with_reducible exact ih1 _ _ _ _)
      | (with_reducible exact LeO.refl _)
      | (with_reducible exact LeO.none _)
      | (with_reducible refine LeO.ite ?_ ?_)
      | (with_reducible refine LeO.bind ?_ (fun _ => ?_))
      | exact ih0 _ _ _ _ _
      | exact ih1 _ _ _ _
      | exact LeO.none _
      | refine LeO.ite ?_ ?_
      | refine LeO.bind ?_ (fun _ => ?_)
theorem euler_uneven.mono : ∀ a0 a1 a2 k, LeO (euler_uneven.f k a0 a1 a2) (euler_uneven.f (k + 1) a0 a1 a2) := by
  intro a0 a1 a2 k
  obtain ⟨ih0, ih1⟩ := euler_uneven.mono_l k
  unfold euler_uneven.f
  repeat' first
      | (with_reducible exact ih0 _ _ _ _ _)
      | (with_reducible exact ih1 _ _ _ _)
      | (with_reducible exact LeO.refl _)
      | (with_reducible exact LeO.none _)
      | (with_reducible refine LeO.ite ?_ ?_)
      | (with_reducible refine LeO.bind ?_ (fun _ => ?_))
      | exact ih0 _ _ _ _ _
      | exact ih1 _ _ _ _
      | exact LeO.none _
      | refine LeO.ite ?_ ?_
      | refine LeO.bind ?_ (fun _ => ?_)
set_option maxHeartbeats 8000000 in
set_option maxRecDepth 100000 in
theorem euler_uneven.calls (k : Nat) (a0_0 : Int) (A0_1 : Option Addr) (c0_1 : Nat) (l0_1 : List (S45)) (a1 : Bool) (r1 : Int) (r2 : Bool) (w : World) (hr0_1 : Kd.C k45 w A0_1 l0_1.length l0_1) (hc0_1 : l0_1.length ≤ c0_1) (h : euler_uneven.f k a0_0 l0_1 a1 = some (r1, r2)) :
    Calls Try.prog 21 #[.agg #[.int .i64 a0_0, .slice A0_1 l0_1.length c0_1], .bool a1] w fun e w' => e = .returned (.tuple #[.int .i64 r1, .bool r2]) ∧ Below w.heap.size w w' := by
 have hu24 := Try.underlying24; have hu45 := Try.underlying45; have HR0_1 := ak hr0_1; have HC0_1 := ak hc0_1; clear hr0_1 hc0_1; have HB := ak (Below.refl w.heap.size w); have H : (if 0 ≤ a0_0 then (if (a0_0 : Int).toNat ≤ 35184372088832 then (euler_uneven.l0 k a1 (List.replicate (a0_0 : Int).toNat 0) l0_1 (l0_1.length : Int) 0) else (none)) else (none)) = some (r1, r2) := h; clear h; replace H := ife H; obtain ⟨c3b0, c3b1, H⟩ := H; replace H := ife H; obtain ⟨c4b0, c4b1, H⟩ := H; obtain ⟨y108, hy108⟩ : ∃ y_ : List Int, y_ = (List.replicate (a0_0 : Int).toNat 0) := ⟨_, rfl⟩; rw [← hy108] at H; have Ny108 := ak hy108; clear hy108; have H' := ak H; clear H
 go_enter Try.func21, Try.ntmps21
 go_wp2_with (first | ((with_reducible refine gate_dst (N := 2) rfl ?_); refine box_event ?hg (N := 2) ?hd (cs := #[.int .i64 a0_0, .slice A0_1 l0_1.length c0_1]) (t := 24) ?hr ?_; (case hd => rfl); (case hg => rfl); (case hr => first | (go_simp; done) | (go_simp; rfl)); intro gb107 hg w5 hbox hb; have n_ := a4 (below_step lb hb) hbox (gw w hg) (gw w hg); clear HB; obtain ⟨HB, BK107, GW107, GE107⟩ := n_; clear hb hbox hg; have hcz6_0 := bc0 BK107; have hcz6_1 := bc1 BK107; have hfz6_0 := bf BK107 0; have hfz6_1 := bf BK107 1) | ((with_reducible refine gate_dst (N := 13) rfl ?_); refine Kd.R_make (Kd.int .i64) _ 3 rfl (N := 13) rfl 62 _ _ rfl a0_0 rfl rfl Try.underlying62 (.int .i64 0) 8 info3 rfl (by decide) (by omega) 0 (ok := fun _ => True) (okp := fun _ => True) rfl (fun _ hk => hk) trivial (oda) (Nat.le_trans (Nat.mul_le_mul_right _ (oda : a0_0.toNat ≤ 35184372088832)) (by omega)) (Below.refl _ _) (Nat.le_refl _) ?_; intro v109 w7 ho8 hb hg_ hnew_; clear hg_ hnew_; (first | rw [← Ny108.out] at ho8 | (simp only [Int.reduceToNat] at ho8; rw [← Ny108.out] at ho8)); have n_ := a3 (Kd.R_lower ho8 (below_size lb)) (blk_below (bx BK107.out) hb) (below_step lb hb); clear BK107 HB; obtain ⟨HO110, BK107, HB⟩ := n_; clear hb ho8; have hcz9_0 := bc0 BK107; have hcz9_1 := bc1 BK107; have hfz9_0 := bf BK107 0; have hfz9_1 := bf BK107 1))
 go_loopg [17] k (fun kq v17 w' => ∃ (x6_1 : List Int) (x17_1 : Int), v17 = .int .i64 x17_1 ∧ Aside0 (euler_uneven.l0 kq a1 x6_1 l0_1 (l0_1.length : Int) x17_1 = some (r1, r2)) ∧ Aside0 (kq ≤ k) ∧ Aside0 (Kd.R (Kd.int .i64) 3 w' w.heap.size (fun _ => True) v109 x6_1) ∧ Aside0 (w'.heap[gb107]? = some (.cells #[.int .i64 a0_0, (.slice A0_1 l0_1.length c0_1)] 24 (0, 0))) ∧ Aside0 (Below w.heap.size w w'))
 case atStart => exact ⟨(y108), (0), (by first | rfl | (simp [*]; done)), H', ⟨Nat.le_refl _⟩, ⟨rx HO110.out⟩, ⟨bx BK107.out⟩, ⟨lb⟩⟩
 case round =>
  clear H'; obtain ⟨x6_1, x17_1, rfl, HA, HK1, HO_6, BK107, HB⟩ := hrel
  cases gk with
  | zero => exact absurd HA.out (by simp [euler_uneven.l0])
  | succ k1 =>
   have H := HA.out; clear HA
   simp only [euler_uneven.l0] at H
   by_cases c10 : x17_1 < (l0_1.length : Int)
   ·
    rw [if_pos c10] at H; have c10b0 := decide_eq_true c10; clear c10; replace H := ifd H; obtain ⟨c11b0, H⟩ := H; replace H := ifd H; obtain ⟨c12b0, H⟩ := H; replace H := ifd H; obtain ⟨c13b0, H⟩ := H; replace H := ifd H; obtain ⟨c14b0, H⟩ := H; obtain ⟨y114, hy114⟩ : ∃ y_ : List Int, y_ = (x6_1.set (((rd_T45 l0_1 x17_1).f0) : Int).toNat (wrap64 ((rd x6_1 ((rd_T45 l0_1 x17_1).f0)) + 1))) := ⟨_, rfl⟩; replace H : (if a1 = true then (if 0 ≤ ((rd_T45 l0_1 x17_1).f1) then (if ((rd_T45 l0_1 x17_1).f1) < (x6_1.length : Int) then (euler_uneven.l0 k1 a1 (y114.set (((rd_T45 l0_1 x17_1).f1) : Int).toNat (wrap64 ((rd y114 ((rd_T45 l0_1 x17_1).f1)) - 1))) l0_1 (l0_1.length : Int) (wrap64 (x17_1 + 1))) else (none)) else (none)) else (if 0 ≤ ((rd_T45 l0_1 x17_1).f1) then (if ((rd_T45 l0_1 x17_1).f1) < (x6_1.length : Int) then (euler_uneven.l0 k1 a1 (y114.set (((rd_T45 l0_1 x17_1).f1) : Int).toNat (wrap64 ((rd y114 ((rd_T45 l0_1 x17_1).f1)) + 1))) l0_1 (l0_1.length : Int) (wrap64 (x17_1 + 1))) else (none)) else (none))) = some (r1, r2) := by first | (rw [hy114]; exact H) | exact H
    have Ny114 := ak hy114; clear hy114
    by_cases c16 : a1 = true
    ·
     subst c16
     have H1 : (if 0 ≤ ((rd_T45 l0_1 x17_1).f1) then (if ((rd_T45 l0_1 x17_1).f1) < (x6_1.length : Int) then (euler_uneven.l0 k1 true (y114.set (((rd_T45 l0_1 x17_1).f1) : Int).toNat (wrap64 ((rd y114 ((rd_T45 l0_1 x17_1).f1)) - 1))) l0_1 (l0_1.length : Int) (wrap64 (x17_1 + 1))) else (none)) else (none)) = some (r1, r2) := by rw [if_pos rfl] at H; exact H
     clear H; have H := H1; clear H1; replace H := ifd H; obtain ⟨c17b0, H⟩ := H; replace H := ifd H; obtain ⟨c18b0, H⟩ := H; obtain ⟨y116, hy116⟩ : ∃ y_ : List Int, y_ = (y114.set (((rd_T45 l0_1 x17_1).f1) : Int).toNat (wrap64 ((rd y114 ((rd_T45 l0_1 x17_1).f1)) - 1))) := ⟨_, rfl⟩; rw [← hy116] at H; have Ny116 := ak hy116; clear hy116; have H' := ak H; clear H; have p111 : 0 ≤ (x17_1 : Int) := oda; have q111 : x17_1 < (l0_1.length : Int) := oda; obtain ⟨ad111, e111, hx111_0, hx111_1, hx111_2, hx111_3⟩ := at_T45 HR0_1.out x17_1 p111 q111; cases e111
     (try replace hx111_0 := hbc HB hx111_0)
     (try replace hx111_1 := hbc HB hx111_1)
     (try replace hx111_2 := hbc HB hx111_2)
     (try replace hx111_3 := hbc HB hx111_3)
     replace p111 := eq_true p111; replace q111 := eq_true q111
     go_wp2_with (first | ((with_reducible refine gate_dst (N := 8) rfl ?_); refine box_event ?hg (N := 8) ?hd (cs := #[.int .i64 0, .int .i64 0, .int .i64 0, .int .i64 0]) (t := 45) ?hr ?_; (case hd => rfl); (case hg => rfl); (case hr => first | (go_simp; done) | (go_simp; rfl)); intro gb112 hg w20 hbox hb; have n_ := a8 (Kd.R_below (rx HO_6.out) hb) (blk_below (bx BK107.out) hb) (below_step lb hb) hbox (gw w hg) (gw w hg) (nl hg BK107) (nr hg BK107); clear HO_6 BK107 HB; obtain ⟨HO_6, BK107, HB, BK112, GW112, GE112, NB107_112, NB112_107⟩ := n_; clear hb hbox hg; have hnb21 := NB112_107.out; have hnc21 := NB107_112.out; have hcz22_0 := bc0 BK112; have hcz22_1 := bc1 BK112; have hcz22_2 := bc2 BK112; have hcz22_3 := bc3 BK112; have hfz22_0 := bf BK112 0; have hfz22_1 := bf BK112 1; have hfz22_2 := bf BK112 2; have hfz22_3 := bf BK112 3) | ((with_reducible refine gate_store (t := 45) (p := 8) rfl ?_); refine store_event (t := 45) (p := 8) (v := ?vo_w23) (w1 := ((((w20.setCell ⟨gb112, 0, none⟩ (.int .i64 ((rd_T45 l0_1 x17_1).f0))).setCell ⟨gb112, 1, none⟩ (.int .i64 ((rd_T45 l0_1 x17_1).f1))).setCell ⟨gb112, 2, none⟩ (.int .i64 ((rd_T45 l0_1 x17_1).f2))).setCell ⟨gb112, 3, none⟩ (.int .i64 ((rd_T45 l0_1 x17_1).f3)))) ?hg ?ho ?hn ?hr ?_; (case ho => rfl); (case hg => rfl); (case hn => rfl); (case hr => first | (go_simp; done) | (go_simp; rfl)); intro w23 hw; have n0_ : Aside0 (Kd.R (Kd.int .i64) 3 w23 w.heap.size (fun _ => True) v109 x6_1) := ⟨(by rw [hw]; exact (by exact rx (Kd.R_mono (Kd.R_far (p := ⟨gb112, 3, none⟩) (Kd.R_far (p := ⟨gb112, 2, none⟩) (Kd.R_far (p := ⟨gb112, 1, none⟩) (Kd.R_far (p := ⟨gb112, 0, none⟩) (Kd.R_types HO_6.out BK112.out (by decide)) (fun _ hk => hk.2) (.int .i64 ((rd_T45 l0_1 x17_1).f0))) (fun _ hk => hk.2) (.int .i64 ((rd_T45 l0_1 x17_1).f1))) (fun _ hk => hk.2) (.int .i64 ((rd_T45 l0_1 x17_1).f2))) (fun _ hk => hk.2) (.int .i64 ((rd_T45 l0_1 x17_1).f3))) (fun _ hk => trivial))))⟩; have n1_ : Aside0 (w23.heap[gb107]? = some (.cells #[.int .i64 a0_0, .slice (some ad111) l0_1.length c0_1] 24 (0, 0))) := ⟨(by rw [hw]; exact (by (with_reducible repeat (first | refine blk_drewN ?_ _ | refine blk_drew ?_ | refine blk_alloc ?_ _)); refine blk_far ?_ NB107_112.out _; (with_reducible repeat (first | refine blk_drewN ?_ _ | refine blk_drew ?_ | refine blk_alloc ?_ _)); refine blk_far ?_ NB107_112.out _; (with_reducible repeat (first | refine blk_drewN ?_ _ | refine blk_drew ?_ | refine blk_alloc ?_ _)); refine blk_far ?_ NB107_112.out _; (with_reducible repeat (first | refine blk_drewN ?_ _ | refine blk_drew ?_ | refine blk_alloc ?_ _)); refine blk_far ?_ NB107_112.out _; exact bx BK107.out))⟩; have n2_ : Aside0 (w23.heap[gb112]? = some (.cells #[.int .i64 ((rd_T45 l0_1 x17_1).f0), .int .i64 ((rd_T45 l0_1 x17_1).f1), .int .i64 ((rd_T45 l0_1 x17_1).f2), .int .i64 ((rd_T45 l0_1 x17_1).f3)] 45 (0, 0))) := ⟨(by rw [hw]; exact (by (with_reducible repeat (first | refine blk_drewN ?_ _ | refine blk_drew ?_ | refine blk_alloc ?_ _)); refine blk_put (cs := #[.int .i64 ((rd_T45 l0_1 x17_1).f0), .int .i64 ((rd_T45 l0_1 x17_1).f1), .int .i64 ((rd_T45 l0_1 x17_1).f2), .int .i64 0]) ?_ 3 _ rfl; (with_reducible repeat (first | refine blk_drewN ?_ _ | refine blk_drew ?_ | refine blk_alloc ?_ _)); refine blk_put (cs := #[.int .i64 ((rd_T45 l0_1 x17_1).f0), .int .i64 ((rd_T45 l0_1 x17_1).f1), .int .i64 0, .int .i64 0]) ?_ 2 _ rfl; (with_reducible repeat (first | refine blk_drewN ?_ _ | refine blk_drew ?_ | refine blk_alloc ?_ _)); refine blk_put (cs := #[.int .i64 ((rd_T45 l0_1 x17_1).f0), .int .i64 0, .int .i64 0, .int .i64 0]) ?_ 1 _ rfl; (with_reducible repeat (first | refine blk_drewN ?_ _ | refine blk_drew ?_ | refine blk_alloc ?_ _)); refine blk_put (cs := #[.int .i64 0, .int .i64 0, .int .i64 0, .int .i64 0]) ?_ 0 _ rfl; exact bx BK112.out))⟩; have n3_ : Aside0 (Below w.heap.size w w23) := ⟨(by rw [hw]; exact lb)⟩; clear hw; clear HO_6; clear BK107; clear BK112; clear HB; have HO_6 := n0_; have BK107 := n1_; have BK112 := n2_; have HB := n3_; clear n0_ n1_ n2_ n3_; have hcz24_0 := bc0 BK112; have hcz24_1 := bc1 BK112; have hcz24_2 := bc2 BK112; have hcz24_3 := bc3 BK112; have hfz24_0 := bf BK112 0; have hfz24_1 := bf BK112 1; have hfz24_2 := bf BK112 2; have hfz24_3 := bf BK112 3; obtain ⟨Ao25, co25, eo25⟩ := Kd.R_slice HO_6.out; subst eo25; have p113 : 0 ≤ (((rd_T45 l0_1 x17_1).f0) : Int) := oda; have q113 : ((rd_T45 l0_1 x17_1).f0) < (x6_1.length : Int) := oda; obtain ⟨ad113, e113, hx113_0⟩ := Kd.at_int (Kd.R_reads' HO_6.out).2.2 ((rd_T45 l0_1 x17_1).f0) p113 q113; cases e113; replace p113 := eq_true p113; replace q113 := eq_true q113; have p15 : 0 ≤ (((rd_T45 l0_1 x17_1).f0) : Int) := oda; have q15 : (((rd_T45 l0_1 x17_1).f0) : Int) < ((x6_1.length : Int) : Int) := oda; obtain ⟨go15, co15, eo15, gb15, gl15, cl15, HG15⟩ := Kd.R_form HO_6.out (by omega); (first | cases eo15 | (injection eo15 with ea_ en_ ec_; (first | subst ea_ | (injection ea_ with ea_; subst ea_)); subst ec_; clear en_)); have GB15 := ak gb15; have GG15 := ak HG15; clear gb15 gl15 HG15; (first | simp only [add_plain] at hx113_0 | skip); obtain ⟨hx15_0, hf15_0⟩ := Kd.R_celln 0 HO_6.out (((rd_T45 l0_1 x17_1).f0) : Int) p15 q15; replace p15 := eq_true p15; replace q15 := eq_true q15; obtain ⟨hy26_, hz26_⟩ := Kd.R_celln 0 HO_6.out (((rd_T45 l0_1 x17_1).f0) : Int) (oda) (oda); have HP26 := Kd.R_putg HO_6.out (((rd_T45 l0_1 x17_1).f0) : Int) (wrap64 ((rd x6_1 ((rd_T45 l0_1 x17_1).f0)) + 1))) | ((with_reducible refine gate_store (t := 3) (p := 27) rfl ?_); refine store_event (t := 3) (p := 27) (v := ?vo_w27) (w1 := (w23.setCell ⟨go15, (((rd_T45 l0_1 x17_1).f0) : Int).toNat, none⟩ (.int .i64 (wrap64 ((rd x6_1 ((rd_T45 l0_1 x17_1).f0)) + 1))))) ?hg ?ho ?hn ?hr ?_; (case ho => rfl); (case hg => rfl); (case hn => rfl); (case hr => first | (go_simp; done) | (go_simp; rfl)); intro w27 hw; have hg : w23.grownBy w27 (some go15) := (by rw [hw]; exact HP26.2); have hp_ : Kd.R (Kd.int .i64) 3 w27 w.heap.size (fun _ => True) (.slice (some ⟨go15, 0, none⟩) x6_1.length co25) y114 := (by rw [hw, Ny114.out]; exact HP26.1); clear HP26; have n_ := a4 hp_ (blk_grown (bx BK107.out) hg (Kd.R_ne HO_6.out BK107.out (by decide))) (blk_grown (bx BK112.out) hg (Kd.R_ne HO_6.out BK112.out (by decide))) (by rw [hw]; exact below_set (HB.out) GB15.out : Below w.heap.size w w27); clear HO_6 BK107 BK112 HB; obtain ⟨HO_6, BK107, BK112, HB⟩ := n_; clear hg hw hp_; have hcz28_0 := bc0 BK112; have hcz28_1 := bc1 BK112; have hcz28_2 := bc2 BK112; have hcz28_3 := bc3 BK112; have hfz28_0 := bf BK112 0; have hfz28_1 := bf BK112 1; have hfz28_2 := bf BK112 2; have hfz28_3 := bf BK112 3; have p115 : 0 ≤ (((rd_T45 l0_1 x17_1).f1) : Int) := oda; have q115 : ((rd_T45 l0_1 x17_1).f1) < (y114.length : Int) := (by have h_ : (((rd_T45 l0_1 x17_1).f1) : Int) < ((x6_1.length : Int) : Int) := oda; first | (have e_ := (Kd.R_reads' HO_6.out).1; omega) | simpa only [Ny114.out, List.length_set] using h_); have ql115 : ((((rd_T45 l0_1 x17_1).f1) : Int) < ((x6_1.length : Int) : Int)) = True := eq_true (oda); obtain ⟨ad115, e115, hx115_0⟩ := Kd.at_int (Kd.R_reads' HO_6.out).2.2 ((rd_T45 l0_1 x17_1).f1) p115 q115; obtain rfl : (⟨go15, 0, none⟩ : Addr) = ad115 := (by injection e115); (first | simp only [add_plain] at hx115_0 | simp only [add_at] at hx115_0 | simp only [Addr.add, Nat.zero_add] at hx115_0 | skip); replace p115 := eq_true p115; replace q115 := eq_true q115; have p19 : 0 ≤ (((rd_T45 l0_1 x17_1).f1) : Int) := oda; have q19 : (((rd_T45 l0_1 x17_1).f1) : Int) < ((x6_1.length : Int) : Int) := oda; obtain ⟨hx19_0, hf19_0⟩ := Kd.R_celln 0 HO_6.out (((rd_T45 l0_1 x17_1).f1) : Int) p19 q19; replace p19 := eq_true p19; replace q19 := eq_true q19; obtain ⟨hy29_, hz29_⟩ := Kd.R_celln 0 HO_6.out (((rd_T45 l0_1 x17_1).f1) : Int) (oda) (oda); have HP29 := Kd.R_putg HO_6.out (((rd_T45 l0_1 x17_1).f1) : Int) (wrap64 ((rd y114 ((rd_T45 l0_1 x17_1).f1)) - 1))) | ((with_reducible refine gate_store (t := 3) (p := 35) rfl ?_); refine store_event (t := 3) (p := 35) (v := ?vo_w30) (w1 := (w27.setCell ⟨go15, (((rd_T45 l0_1 x17_1).f1) : Int).toNat, none⟩ (.int .i64 (wrap64 ((rd y114 ((rd_T45 l0_1 x17_1).f1)) - 1))))) ?hg ?ho ?hn ?hr ?_; (case ho => rfl); (case hg => rfl); (case hn => rfl); (case hr => first | (go_simp; done) | (go_simp; rfl)); intro w30 hw; have hg : w27.grownBy w30 (some go15) := (by rw [hw]; exact HP29.2); have hp_ : Kd.R (Kd.int .i64) 3 w30 w.heap.size (fun _ => True) (.slice (some ⟨go15, 0, none⟩) x6_1.length co25) y116 := (by rw [hw, Ny116.out]; exact HP29.1); clear HP29; have n_ := a4 hp_ (blk_grown (bx BK107.out) hg (Kd.R_ne HO_6.out BK107.out (by decide))) (blk_grown (bx BK112.out) hg (Kd.R_ne HO_6.out BK112.out (by decide))) (by rw [hw]; exact below_set (HB.out) GB15.out : Below w.heap.size w w30); clear HO_6 BK107 BK112 HB; obtain ⟨HO_6, BK107, BK112, HB⟩ := n_; clear hg hw hp_))
     go_roundg k1
     case measure => have := HK1.out; omega
     case rel => exact ⟨(y116), (wrap64 (x17_1 + 1)), (by first | rfl | (simp [*]; done)), H', ⟨by have := HK1.out; omega⟩, ⟨rx HO_6.out⟩, ⟨bx BK107.out⟩, ⟨lb⟩⟩
    ·
     replace c16 := Bool.eq_false_iff.mpr c16; subst c16
     have H1 : (if 0 ≤ ((rd_T45 l0_1 x17_1).f1) then (if ((rd_T45 l0_1 x17_1).f1) < (x6_1.length : Int) then (euler_uneven.l0 k1 false (y114.set (((rd_T45 l0_1 x17_1).f1) : Int).toNat (wrap64 ((rd y114 ((rd_T45 l0_1 x17_1).f1)) + 1))) l0_1 (l0_1.length : Int) (wrap64 (x17_1 + 1))) else (none)) else (none)) = some (r1, r2) := by rw [if_neg (show ¬ (false = true) by decide)] at H; exact H
     clear H; have H := H1; clear H1; replace H := ifd H; obtain ⟨c31b0, H⟩ := H; replace H := ifd H; obtain ⟨c32b0, H⟩ := H; obtain ⟨y118, hy118⟩ : ∃ y_ : List Int, y_ = (y114.set (((rd_T45 l0_1 x17_1).f1) : Int).toNat (wrap64 ((rd y114 ((rd_T45 l0_1 x17_1).f1)) + 1))) := ⟨_, rfl⟩; rw [← hy118] at H; have Ny118 := ak hy118; clear hy118; have H' := ak H; clear H; have p111 : 0 ≤ (x17_1 : Int) := oda; have q111 : x17_1 < (l0_1.length : Int) := oda; obtain ⟨ad111, e111, hx111_0, hx111_1, hx111_2, hx111_3⟩ := at_T45 HR0_1.out x17_1 p111 q111; cases e111
     (try replace hx111_0 := hbc HB hx111_0)
     (try replace hx111_1 := hbc HB hx111_1)
     (try replace hx111_2 := hbc HB hx111_2)
     (try replace hx111_3 := hbc HB hx111_3)
     replace p111 := eq_true p111; replace q111 := eq_true q111
     go_wp2_with (first | ((with_reducible refine gate_dst (N := 8) rfl ?_); refine box_event ?hg (N := 8) ?hd (cs := #[.int .i64 0, .int .i64 0, .int .i64 0, .int .i64 0]) (t := 45) ?hr ?_; (case hd => rfl); (case hg => rfl); (case hr => first | (go_simp; done) | (go_simp; rfl)); intro gb112 hg w34 hbox hb; have n_ := a8 (Kd.R_below (rx HO_6.out) hb) (blk_below (bx BK107.out) hb) (below_step lb hb) hbox (gw w hg) (gw w hg) (nl hg BK107) (nr hg BK107); clear HO_6 BK107 HB; obtain ⟨HO_6, BK107, HB, BK112, GW112, GE112, NB107_112, NB112_107⟩ := n_; clear hb hbox hg; have hnb35 := NB112_107.out; have hnc35 := NB107_112.out; have hcz36_0 := bc0 BK112; have hcz36_1 := bc1 BK112; have hcz36_2 := bc2 BK112; have hcz36_3 := bc3 BK112; have hfz36_0 := bf BK112 0; have hfz36_1 := bf BK112 1; have hfz36_2 := bf BK112 2; have hfz36_3 := bf BK112 3) | ((with_reducible refine gate_store (t := 45) (p := 8) rfl ?_); refine store_event (t := 45) (p := 8) (v := ?vo_w37) (w1 := ((((w34.setCell ⟨gb112, 0, none⟩ (.int .i64 ((rd_T45 l0_1 x17_1).f0))).setCell ⟨gb112, 1, none⟩ (.int .i64 ((rd_T45 l0_1 x17_1).f1))).setCell ⟨gb112, 2, none⟩ (.int .i64 ((rd_T45 l0_1 x17_1).f2))).setCell ⟨gb112, 3, none⟩ (.int .i64 ((rd_T45 l0_1 x17_1).f3)))) ?hg ?ho ?hn ?hr ?_; (case ho => rfl); (case hg => rfl); (case hn => rfl); (case hr => first | (go_simp; done) | (go_simp; rfl)); intro w37 hw; have n0_ : Aside0 (Kd.R (Kd.int .i64) 3 w37 w.heap.size (fun _ => True) v109 x6_1) := ⟨(by rw [hw]; exact (by exact rx (Kd.R_mono (Kd.R_far (p := ⟨gb112, 3, none⟩) (Kd.R_far (p := ⟨gb112, 2, none⟩) (Kd.R_far (p := ⟨gb112, 1, none⟩) (Kd.R_far (p := ⟨gb112, 0, none⟩) (Kd.R_types HO_6.out BK112.out (by decide)) (fun _ hk => hk.2) (.int .i64 ((rd_T45 l0_1 x17_1).f0))) (fun _ hk => hk.2) (.int .i64 ((rd_T45 l0_1 x17_1).f1))) (fun _ hk => hk.2) (.int .i64 ((rd_T45 l0_1 x17_1).f2))) (fun _ hk => hk.2) (.int .i64 ((rd_T45 l0_1 x17_1).f3))) (fun _ hk => trivial))))⟩; have n1_ : Aside0 (w37.heap[gb107]? = some (.cells #[.int .i64 a0_0, .slice (some ad111) l0_1.length c0_1] 24 (0, 0))) := ⟨(by rw [hw]; exact (by (with_reducible repeat (first | refine blk_drewN ?_ _ | refine blk_drew ?_ | refine blk_alloc ?_ _)); refine blk_far ?_ NB107_112.out _; (with_reducible repeat (first | refine blk_drewN ?_ _ | refine blk_drew ?_ | refine blk_alloc ?_ _)); refine blk_far ?_ NB107_112.out _; (with_reducible repeat (first | refine blk_drewN ?_ _ | refine blk_drew ?_ | refine blk_alloc ?_ _)); refine blk_far ?_ NB107_112.out _; (with_reducible repeat (first | refine blk_drewN ?_ _ | refine blk_drew ?_ | refine blk_alloc ?_ _)); refine blk_far ?_ NB107_112.out _; exact bx BK107.out))⟩; have n2_ : Aside0 (w37.heap[gb112]? = some (.cells #[.int .i64 ((rd_T45 l0_1 x17_1).f0), .int .i64 ((rd_T45 l0_1 x17_1).f1), .int .i64 ((rd_T45 l0_1 x17_1).f2), .int .i64 ((rd_T45 l0_1 x17_1).f3)] 45 (0, 0))) := ⟨(by rw [hw]; exact (by (with_reducible repeat (first | refine blk_drewN ?_ _ | refine blk_drew ?_ | refine blk_alloc ?_ _)); refine blk_put (cs := #[.int .i64 ((rd_T45 l0_1 x17_1).f0), .int .i64 ((rd_T45 l0_1 x17_1).f1), .int .i64 ((rd_T45 l0_1 x17_1).f2), .int .i64 0]) ?_ 3 _ rfl; (with_reducible repeat (first | refine blk_drewN ?_ _ | refine blk_drew ?_ | refine blk_alloc ?_ _)); refine blk_put (cs := #[.int .i64 ((rd_T45 l0_1 x17_1).f0), .int .i64 ((rd_T45 l0_1 x17_1).f1), .int .i64 0, .int .i64 0]) ?_ 2 _ rfl; (with_reducible repeat (first | refine blk_drewN ?_ _ | refine blk_drew ?_ | refine blk_alloc ?_ _)); refine blk_put (cs := #[.int .i64 ((rd_T45 l0_1 x17_1).f0), .int .i64 0, .int .i64 0, .int .i64 0]) ?_ 1 _ rfl; (with_reducible repeat (first | refine blk_drewN ?_ _ | refine blk_drew ?_ | refine blk_alloc ?_ _)); refine blk_put (cs := #[.int .i64 0, .int .i64 0, .int .i64 0, .int .i64 0]) ?_ 0 _ rfl; exact bx BK112.out))⟩; have n3_ : Aside0 (Below w.heap.size w w37) := ⟨(by rw [hw]; exact lb)⟩; clear hw; clear HO_6; clear BK107; clear BK112; clear HB; have HO_6 := n0_; have BK107 := n1_; have BK112 := n2_; have HB := n3_; clear n0_ n1_ n2_ n3_; have hcz38_0 := bc0 BK112; have hcz38_1 := bc1 BK112; have hcz38_2 := bc2 BK112; have hcz38_3 := bc3 BK112; have hfz38_0 := bf BK112 0; have hfz38_1 := bf BK112 1; have hfz38_2 := bf BK112 2; have hfz38_3 := bf BK112 3; obtain ⟨Ao39, co39, eo39⟩ := Kd.R_slice HO_6.out; subst eo39; have p113 : 0 ≤ (((rd_T45 l0_1 x17_1).f0) : Int) := oda; have q113 : ((rd_T45 l0_1 x17_1).f0) < (x6_1.length : Int) := oda; obtain ⟨ad113, e113, hx113_0⟩ := Kd.at_int (Kd.R_reads' HO_6.out).2.2 ((rd_T45 l0_1 x17_1).f0) p113 q113; cases e113; replace p113 := eq_true p113; replace q113 := eq_true q113; have p15 : 0 ≤ (((rd_T45 l0_1 x17_1).f0) : Int) := oda; have q15 : (((rd_T45 l0_1 x17_1).f0) : Int) < ((x6_1.length : Int) : Int) := oda; obtain ⟨go15, co15, eo15, gb15, gl15, cl15, HG15⟩ := Kd.R_form HO_6.out (by omega); (first | cases eo15 | (injection eo15 with ea_ en_ ec_; (first | subst ea_ | (injection ea_ with ea_; subst ea_)); subst ec_; clear en_)); have GB15 := ak gb15; have GG15 := ak HG15; clear gb15 gl15 HG15; (first | simp only [add_plain] at hx113_0 | skip); obtain ⟨hx15_0, hf15_0⟩ := Kd.R_celln 0 HO_6.out (((rd_T45 l0_1 x17_1).f0) : Int) p15 q15; replace p15 := eq_true p15; replace q15 := eq_true q15; obtain ⟨hy40_, hz40_⟩ := Kd.R_celln 0 HO_6.out (((rd_T45 l0_1 x17_1).f0) : Int) (oda) (oda); have HP40 := Kd.R_putg HO_6.out (((rd_T45 l0_1 x17_1).f0) : Int) (wrap64 ((rd x6_1 ((rd_T45 l0_1 x17_1).f0)) + 1))) | ((with_reducible refine gate_store (t := 3) (p := 27) rfl ?_); refine store_event (t := 3) (p := 27) (v := ?vo_w41) (w1 := (w37.setCell ⟨go15, (((rd_T45 l0_1 x17_1).f0) : Int).toNat, none⟩ (.int .i64 (wrap64 ((rd x6_1 ((rd_T45 l0_1 x17_1).f0)) + 1))))) ?hg ?ho ?hn ?hr ?_; (case ho => rfl); (case hg => rfl); (case hn => rfl); (case hr => first | (go_simp; done) | (go_simp; rfl)); intro w41 hw; have hg : w37.grownBy w41 (some go15) := (by rw [hw]; exact HP40.2); have hp_ : Kd.R (Kd.int .i64) 3 w41 w.heap.size (fun _ => True) (.slice (some ⟨go15, 0, none⟩) x6_1.length co39) y114 := (by rw [hw, Ny114.out]; exact HP40.1); clear HP40; have n_ := a4 hp_ (blk_grown (bx BK107.out) hg (Kd.R_ne HO_6.out BK107.out (by decide))) (blk_grown (bx BK112.out) hg (Kd.R_ne HO_6.out BK112.out (by decide))) (by rw [hw]; exact below_set (HB.out) GB15.out : Below w.heap.size w w41); clear HO_6 BK107 BK112 HB; obtain ⟨HO_6, BK107, BK112, HB⟩ := n_; clear hg hw hp_; have hcz42_0 := bc0 BK112; have hcz42_1 := bc1 BK112; have hcz42_2 := bc2 BK112; have hcz42_3 := bc3 BK112; have hfz42_0 := bf BK112 0; have hfz42_1 := bf BK112 1; have hfz42_2 := bf BK112 2; have hfz42_3 := bf BK112 3; have p117 : 0 ≤ (((rd_T45 l0_1 x17_1).f1) : Int) := oda; have q117 : ((rd_T45 l0_1 x17_1).f1) < (y114.length : Int) := (by have h_ : (((rd_T45 l0_1 x17_1).f1) : Int) < ((x6_1.length : Int) : Int) := oda; first | (have e_ := (Kd.R_reads' HO_6.out).1; omega) | simpa only [Ny114.out, List.length_set] using h_); have ql117 : ((((rd_T45 l0_1 x17_1).f1) : Int) < ((x6_1.length : Int) : Int)) = True := eq_true (oda); obtain ⟨ad117, e117, hx117_0⟩ := Kd.at_int (Kd.R_reads' HO_6.out).2.2 ((rd_T45 l0_1 x17_1).f1) p117 q117; obtain rfl : (⟨go15, 0, none⟩ : Addr) = ad117 := (by injection e117); (first | simp only [add_plain] at hx117_0 | simp only [add_at] at hx117_0 | simp only [Addr.add, Nat.zero_add] at hx117_0 | skip); replace p117 := eq_true p117; replace q117 := eq_true q117; have p33 : 0 ≤ (((rd_T45 l0_1 x17_1).f1) : Int) := oda; have q33 : (((rd_T45 l0_1 x17_1).f1) : Int) < ((x6_1.length : Int) : Int) := oda; obtain ⟨hx33_0, hf33_0⟩ := Kd.R_celln 0 HO_6.out (((rd_T45 l0_1 x17_1).f1) : Int) p33 q33; replace p33 := eq_true p33; replace q33 := eq_true q33; obtain ⟨hy43_, hz43_⟩ := Kd.R_celln 0 HO_6.out (((rd_T45 l0_1 x17_1).f1) : Int) (oda) (oda); have HP43 := Kd.R_putg HO_6.out (((rd_T45 l0_1 x17_1).f1) : Int) (wrap64 ((rd y114 ((rd_T45 l0_1 x17_1).f1)) + 1))) | ((with_reducible refine gate_store (t := 3) (p := 42) rfl ?_); refine store_event (t := 3) (p := 42) (v := ?vo_w44) (w1 := (w41.setCell ⟨go15, (((rd_T45 l0_1 x17_1).f1) : Int).toNat, none⟩ (.int .i64 (wrap64 ((rd y114 ((rd_T45 l0_1 x17_1).f1)) + 1))))) ?hg ?ho ?hn ?hr ?_; (case ho => rfl); (case hg => rfl); (case hn => rfl); (case hr => first | (go_simp; done) | (go_simp; rfl)); intro w44 hw; have hg : w41.grownBy w44 (some go15) := (by rw [hw]; exact HP43.2); have hp_ : Kd.R (Kd.int .i64) 3 w44 w.heap.size (fun _ => True) (.slice (some ⟨go15, 0, none⟩) x6_1.length co39) y118 := (by rw [hw, Ny118.out]; exact HP43.1); clear HP43; have n_ := a4 hp_ (blk_grown (bx BK107.out) hg (Kd.R_ne HO_6.out BK107.out (by decide))) (blk_grown (bx BK112.out) hg (Kd.R_ne HO_6.out BK112.out (by decide))) (by rw [hw]; exact below_set (HB.out) GB15.out : Below w.heap.size w w44); clear HO_6 BK107 BK112 HB; obtain ⟨HO_6, BK107, BK112, HB⟩ := n_; clear hg hw hp_))
     go_roundg k1
     case measure => have := HK1.out; omega
     case rel => exact ⟨(y118), (wrap64 (x17_1 + 1)), (by first | rfl | (simp [*]; done)), H', ⟨by have := HK1.out; omega⟩, ⟨rx HO_6.out⟩, ⟨bx BK107.out⟩, ⟨lb⟩⟩
   ·
    rw [if_neg c10] at H; have c10b0 : decide (x17_1 < (l0_1.length : Int)) = false := decide_eq_false c10; clear c10; have H' := ak H; clear H; obtain ⟨Ao45, co45, eo45⟩ := Kd.R_slice HO_6.out; subst eo45
    go_wp2
    go_loopg [46] k1 (fun kq v46 w' => ∃ (x46_2 : Int), v46 = .int .i64 x46_2 ∧ Aside0 (euler_uneven.l1 kq a1 x6_1 (x6_1.length : Int) x46_2 = some (r1, r2)) ∧ Aside0 (kq ≤ k1) ∧ Aside0 (Kd.R (Kd.int .i64) 3 w' w.heap.size (fun _ => True) (.slice Ao45 x6_1.length co45) x6_1) ∧ Aside0 (w'.heap[gb107]? = some (.cells #[.int .i64 a0_0, (.slice A0_1 l0_1.length c0_1)] 24 (0, 0))) ∧ Aside0 (Below w.heap.size w w'))
    case atStart => exact ⟨(0), (by first | rfl | (simp [*]; done)), H', ⟨Nat.le_refl _⟩, ⟨rx HO_6.out⟩, ⟨bx BK107.out⟩, ⟨lb⟩⟩
    case round =>
     clear H'; obtain ⟨x46_2, rfl, HA, HK2, HO_44, BK107, HB⟩ := hrel
     cases gk with
     | zero => exact absurd HA.out (by simp [euler_uneven.l1])
     | succ k2 =>
      have H := HA.out; clear HA
      simp only [euler_uneven.l1] at H
      by_cases c46 : x46_2 < (x6_1.length : Int)
      ·
       rw [if_pos c46] at H; have c46b0 := decide_eq_true c46; clear c46; replace H := ifd H; obtain ⟨c47b0, H⟩ := H; replace H := ifd H; obtain ⟨c48b0, H⟩ := H
       by_cases c49 : a1 = true
       ·
        subst c49
        have H1 : (if (rd x6_1 x46_2) = 0 then (if (Go.bits .and .i64 (rd x6_1 x46_2) 1) = 1 then (some (x46_2, true)) else (euler_uneven.l1 k2 true x6_1 (x6_1.length : Int) (wrap64 (x46_2 + 1)))) else (some (x46_2, true))) = some (r1, r2) := by rw [if_pos rfl] at H; exact H
        clear H; have H := H1; clear H1
        by_cases c50 : (rd x6_1 x46_2) = 0
        ·
         rw [if_pos c50] at H; have c50b0 : ((rd x6_1 x46_2) == 0) = true := beq_iff_eq.mpr c50; have c50b1 : ((rd x6_1 x46_2) != 0) = false := bne_eq_false_iff_eq.mpr c50; clear c50
         by_cases c51 : (Go.bits .and .i64 (rd x6_1 x46_2) 1) = 1
         ·
          rw [if_pos c51] at H; have c51b0 : ((Go.bits .and .i64 (rd x6_1 x46_2) 1) == 1) = true := beq_iff_eq.mpr c51; have c51b1 : ((Go.bits .and .i64 (rd x6_1 x46_2) 1) != 1) = false := bne_eq_false_iff_eq.mpr c51; clear c51
          simp only [Option.some.injEq, Prod.mk.injEq] at H
          obtain ⟨rfl, rfl⟩ := H; have p119 : 0 ≤ (x46_2 : Int) := oda; have q119 : x46_2 < (x6_1.length : Int) := oda; obtain ⟨ad119, e119, hx119_0⟩ := Kd.at_int (Kd.R_reads' HO_44.out).2.2 x46_2 p119 q119; cases e119; replace p119 := eq_true p119; replace q119 := eq_true q119
          go_wp2
          go_ret2
          exact ⟨by first | rfl | (simp [errW_none, errW_some] <;> rfl) | (simp [*, errW_none, errW_some] <;> rfl), lb⟩
         ·
          rw [if_neg c51] at H; have c51b0 : ((Go.bits .and .i64 (rd x6_1 x46_2) 1) == 1) = false := beq_eq_false_iff_ne.mpr c51; have c51b1 : ((Go.bits .and .i64 (rd x6_1 x46_2) 1) != 1) = true := bne_iff_ne.mpr c51; have H' := ak H; clear H; have p119 : 0 ≤ (x46_2 : Int) := oda; have q119 : x46_2 < (x6_1.length : Int) := oda; obtain ⟨ad119, e119, hx119_0⟩ := Kd.at_int (Kd.R_reads' HO_44.out).2.2 x46_2 p119 q119; cases e119; replace p119 := eq_true p119; replace q119 := eq_true q119
          go_wp2
          go_roundg k2
          case measure => have := HK1.out; have := HK2.out; omega
          case rel => exact ⟨(wrap64 (x46_2 + 1)), (by first | rfl | (simp [*]; done)), H', ⟨by have := HK1.out; have := HK2.out; omega⟩, ⟨rx HO_44.out⟩, ⟨bx BK107.out⟩, ⟨lb⟩⟩
        ·
         rw [if_neg c50] at H; have c50b0 : ((rd x6_1 x46_2) == 0) = false := beq_eq_false_iff_ne.mpr c50; have c50b1 : ((rd x6_1 x46_2) != 0) = true := bne_iff_ne.mpr c50
         simp only [Option.some.injEq, Prod.mk.injEq] at H
         obtain ⟨rfl, rfl⟩ := H; have p119 : 0 ≤ (x46_2 : Int) := oda; have q119 : x46_2 < (x6_1.length : Int) := oda; obtain ⟨ad119, e119, hx119_0⟩ := Kd.at_int (Kd.R_reads' HO_44.out).2.2 x46_2 p119 q119; cases e119; replace p119 := eq_true p119; replace q119 := eq_true q119
         go_wp2
         go_ret2
         exact ⟨by first | rfl | (simp [errW_none, errW_some] <;> rfl) | (simp [*, errW_none, errW_some] <;> rfl), lb⟩
       ·
        replace c49 := Bool.eq_false_iff.mpr c49; subst c49
        have H1 : (if (Go.bits .and .i64 (rd x6_1 x46_2) 1) = 1 then (some (x46_2, true)) else (euler_uneven.l1 k2 false x6_1 (x6_1.length : Int) (wrap64 (x46_2 + 1)))) = some (r1, r2) := by rw [if_neg (show ¬ (false = true) by decide)] at H; exact H
        clear H; have H := H1; clear H1
        by_cases c52 : (Go.bits .and .i64 (rd x6_1 x46_2) 1) = 1
        ·
         rw [if_pos c52] at H; have c52b0 : ((Go.bits .and .i64 (rd x6_1 x46_2) 1) == 1) = true := beq_iff_eq.mpr c52; have c52b1 : ((Go.bits .and .i64 (rd x6_1 x46_2) 1) != 1) = false := bne_eq_false_iff_eq.mpr c52; clear c52
         simp only [Option.some.injEq, Prod.mk.injEq] at H
         obtain ⟨rfl, rfl⟩ := H; have p119 : 0 ≤ (x46_2 : Int) := oda; have q119 : x46_2 < (x6_1.length : Int) := oda; obtain ⟨ad119, e119, hx119_0⟩ := Kd.at_int (Kd.R_reads' HO_44.out).2.2 x46_2 p119 q119; cases e119; replace p119 := eq_true p119; replace q119 := eq_true q119
         go_wp2
         go_ret2
         exact ⟨by first | rfl | (simp [errW_none, errW_some] <;> rfl) | (simp [*, errW_none, errW_some] <;> rfl), lb⟩
        ·
         rw [if_neg c52] at H; have c52b0 : ((Go.bits .and .i64 (rd x6_1 x46_2) 1) == 1) = false := beq_eq_false_iff_ne.mpr c52; have c52b1 : ((Go.bits .and .i64 (rd x6_1 x46_2) 1) != 1) = true := bne_iff_ne.mpr c52; have H' := ak H; clear H; have p119 : 0 ≤ (x46_2 : Int) := oda; have q119 : x46_2 < (x6_1.length : Int) := oda; obtain ⟨ad119, e119, hx119_0⟩ := Kd.at_int (Kd.R_reads' HO_44.out).2.2 x46_2 p119 q119; cases e119; replace p119 := eq_true p119; replace q119 := eq_true q119
         go_wp2
         go_roundg k2
         case measure => have := HK1.out; have := HK2.out; omega
         case rel => exact ⟨(wrap64 (x46_2 + 1)), (by first | rfl | (simp [*]; done)), H', ⟨by have := HK1.out; have := HK2.out; omega⟩, ⟨rx HO_44.out⟩, ⟨bx BK107.out⟩, ⟨lb⟩⟩
      ·
       rw [if_neg c46] at H; have c46b0 : decide (x46_2 < (x6_1.length : Int)) = false := decide_eq_false c46; clear c46
       simp only [Option.some.injEq, Prod.mk.injEq] at H
       obtain ⟨rfl, rfl⟩ := H
       go_wp2
       go_ret2
       exact ⟨by first | rfl | (simp [errW_none, errW_some] <;> rfl) | (simp [*, errW_none, errW_some] <;> rfl), lb⟩
end Go.Proofs.Ytplbkggdnonfbaa.Q
