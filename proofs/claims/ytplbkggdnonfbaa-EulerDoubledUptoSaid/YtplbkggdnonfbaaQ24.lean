import Derived.Test.YtplbkggdnonfbaaQ0
namespace Go.Proofs.Ytplbkggdnonfbaa.Q
open Go.RowKit Go.Proofs.YtplbkggdnonfbaaW.PrintWords Go.Proofs.YtplbkggdnonfbaaW.PrintLast Go.Proofs.YtplbkggdnonfbaaW.PrintMore
attribute [local go_sem] max2_int min2_int max_two min_two max_three min_three max_four min_four   -- for this text's walks alone
set_option linter.unusedVariables false
set_option linter.unusedSimpArgs false

/-! ### compasslaw09_plain: function 12 -/
def compasslaw09_plain.l0 : Nat → List (S65) → List (S51) → Int → Int → Option ((List (S65)))
  | 0, _, _, _, _ => none
  | k + 1, x3, x7, x8, x9 => if x9 < x8 then (if 0 ≤ x9 then (if x9 < (x7.length : Int) then (if x3.length < 8796093022208 then (compasslaw09_plain.l0 k (x3 ++ [(⟨(rd_T51 x7 x9).f0, (rd_T51 x7 x9).f1⟩ : S65)]) x7 x8 (wrap64 (x9 + 1))) else (none)) else (none)) else (none)) else (some x3)
def compasslaw09_plain.f (k : Nat) (a0_0 : Int) (l0_1 : List (S51)) : Option ((List (S65))) := compasslaw09_plain.l0 k ([] : List (S65)) l0_1 (l0_1.length : Int) 0
theorem compasslaw09_plain.mono_l : ∀ k, (∀ y0 y1 y2 y3, LeO (compasslaw09_plain.l0 k y0 y1 y2 y3) (compasslaw09_plain.l0 (k + 1) y0 y1 y2 y3))
  | 0 => fun _ _ _ _ r h => by simp [compasslaw09_plain.l0] at h
  | k + 1 => by
    have ih0 := compasslaw09_plain.mono_l k
    · intro y0 y1 y2 y3
      unfold compasslaw09_plain.l0
      repeat' first
      | (with_reducible exact ih0 _ _ _ _)
      | (with_reducible exact LeO.refl _)
      | (with_reducible exact LeO.none _)
      | (with_reducible refine LeO.ite ?_ ?_)
      | (with_reducible refine LeO.bind ?_ (fun _ => ?_))
      | exact ih0 _ _ _ _
      | exact LeO.none _
      | refine LeO.ite ?_ ?_
      | refine LeO.bind ?_ (fun _ => ?_)
theorem compasslaw09_plain.mono : ∀ a0 a1 k, LeO (compasslaw09_plain.f k a0 a1) (compasslaw09_plain.f (k + 1) a0 a1) := by
  intro a0 a1 k
  have ih0 := compasslaw09_plain.mono_l k
  unfold compasslaw09_plain.f
  repeat' first
      | (with_reducible exact ih0 _ _ _ _)
      | (with_reducible exact LeO.refl _)
      | (with_reducible exact LeO.none _)
      | (with_reducible refine LeO.ite ?_ ?_)
      | (with_reducible refine LeO.bind ?_ (fun _ => ?_))
      | exact ih0 _ _ _ _
      | exact LeO.none _
      | refine LeO.ite ?_ ?_
      | refine LeO.bind ?_ (fun _ => ?_)
set_option maxHeartbeats 8000000 in
set_option maxRecDepth 100000 in
theorem compasslaw09_plain.calls (k : Nat) (a0_0 : Int) (A0_1 : Option Addr) (c0_1 : Nat) (l0_1 : List (S51)) (r : List (S65)) (w : World) (hr0_1 : Kd.C k51 w A0_1 l0_1.length l0_1) (hc0_1 : l0_1.length ≤ c0_1) (h : compasslaw09_plain.f k a0_0 l0_1 = some r) :
    Calls Try.prog 12 #[.agg #[.int .i64 a0_0, .slice A0_1 l0_1.length c0_1]] w fun e w' => ∃ v0_ : Value, e = .returned (v0_) ∧ Kd.R k65 65 w' w.heap.size (fun _ => True) v0_ r ∧ Below w.heap.size w w' := by
 have hu28 := Try.underlying28; have hu51 := Try.underlying51; have hu65 := Try.underlying65; have HR0_1 := ak hr0_1; have HC0_1 := ak hc0_1; clear hr0_1 hc0_1; have HB := ak (Below.refl w.heap.size w); have H : (compasslaw09_plain.l0 k ([] : List (S65)) l0_1 (l0_1.length : Int) 0) = some r := h; clear h; have H' := ak H; clear H
 go_enter Try.func12, Try.ntmps12
 go_wp2_with (first | ((with_reducible refine gate_dst (N := 1) rfl ?_); refine box_event ?hg (N := 1) ?hd (cs := #[.int .i64 a0_0, .slice A0_1 l0_1.length c0_1]) (t := 28) ?hr ?_; (case hd => rfl); (case hg => rfl); (case hr => first | (go_simp; done) | (go_simp; rfl)); intro gb404 hg w2 hbox hb; have n_ := a4 (below_step lb hb) hbox (by rw [hg]; exact (below_size lb) : w.heap.size ≤ gb404) (by rw [hg]; exact (below_size lb) : w.heap.size ≤ gb404); clear HB; obtain ⟨HB, BK404, GW404, GE404⟩ := n_; clear hb hbox hg; have hcz3_0 := bc0 BK404; have hcz3_1 := bc1 BK404; have hfz3_0 := bf BK404 0; have hfz3_1 := bf BK404 1))
 go_loopg [3, 9] k (fun kq v3 v9 w' => ∃ (x3_1 : List (S65)) (x9_1 : Int), v9 = .int .i64 x9_1 ∧ Aside0 (compasslaw09_plain.l0 kq x3_1 l0_1 (l0_1.length : Int) x9_1 = some r) ∧ Aside0 (kq ≤ k) ∧ Aside0 (Kd.R k65 65 w' w.heap.size (fun _ => True) v3 x3_1) ∧ Aside0 (w'.heap[gb404]? = some (.cells #[.int .i64 a0_0, (.slice A0_1 l0_1.length c0_1)] 28 (0, 0))) ∧ Aside0 (Below w.heap.size w w'))
 case atStart => exact ⟨(([] : List (S65))), (0), (by first | rfl | (simp [*]; done)), H', ⟨Nat.le_refl _⟩, ⟨by first | exact Kd.R_nil _ _ _ _ _ | exact Kd.N_nil _ _ _ _ _ | exact Kd.V_nil _ _ _ _ _ | exact Kd.Q_nil _ _ _ _ _ | exact Kd.S_nil _ _ _ _ _⟩, ⟨bx BK404.out⟩, ⟨lb⟩⟩
 case round =>
  clear H'; obtain ⟨x3_1, x9_1, rfl, HA, HK1, HO_3, BK404, HB⟩ := hrel
  cases gk with
  | zero => exact absurd HA.out (by simp [compasslaw09_plain.l0])
  | succ k1 =>
   have H := HA.out; clear HA
   simp only [compasslaw09_plain.l0] at H
   by_cases c4 : x9_1 < (l0_1.length : Int)
   ·
    rw [if_pos c4] at H; have c4b0 := decide_eq_true c4; clear c4; replace H := ifd H; obtain ⟨c5b0, H⟩ := H; replace H := ifd H; obtain ⟨c6b0, H⟩ := H; replace H := ifn H; obtain ⟨c7, H⟩ := H; have LMc7 := ak c7; clear c7; obtain ⟨y407, hy407⟩ : ∃ y_ : List (S65), y_ = (x3_1 ++ [(⟨(rd_T51 l0_1 x9_1).f0, (rd_T51 l0_1 x9_1).f1⟩ : S65)]) := ⟨_, rfl⟩; rw [← hy407] at H; have Ny407 := ak hy407; clear hy407; have H' := ak H; clear H; have p405 : 0 ≤ (x9_1 : Int) := oda; have q405 : x9_1 < (l0_1.length : Int) := oda; obtain ⟨ad405, e405, hx405_0, hx405_1⟩ := at_T51 HR0_1.out x9_1 p405 q405; cases e405
    (try replace hx405_0 := hbc HB hx405_0)
    (try replace hx405_1 := hbc HB hx405_1)
    replace p405 := eq_true p405; replace q405 := eq_true q405
    go_wp2_with (first | ((with_reducible refine gate_dst (N := 5) rfl ?_); refine box_event ?hg (N := 5) ?hd (cs := #[.int .i64 0, .bool false]) (t := 51) ?hr ?_; (case hd => rfl); (case hg => rfl); (case hr => first | (go_simp; done) | (go_simp; rfl)); intro gb406 hg w8 hbox hb; have n_ := a8 (Kd.R_below (rx HO_3.out) hb) (blk_below (bx BK404.out) hb) (below_step lb hb) hbox (by rw [hg]; exact (below_size lb) : w.heap.size ≤ gb406) (by rw [hg]; exact (below_size lb) : w.heap.size ≤ gb406) (by rw [hg]; exact Nat.ne_of_lt (blk_lt (g := gb404) (o := .cells #[.int .i64 a0_0, .slice (some ad405) l0_1.length c0_1] 28 (0, 0)) (bx BK404.out)) : gb404 ≠ gb406) (by rw [hg]; exact Nat.ne_of_gt (blk_lt (g := gb404) (o := .cells #[.int .i64 a0_0, .slice (some ad405) l0_1.length c0_1] 28 (0, 0)) (bx BK404.out)) : gb406 ≠ gb404); clear HO_3 BK404 HB; obtain ⟨HO_3, BK404, HB, BK406, GW406, GE406, NB404_406, NB406_404⟩ := n_; clear hb hbox hg; have hnb9 := NB406_404.out; have hnc9 := NB404_406.out; have hcz10_0 := bc0 BK406; have hcz10_1 := bc1 BK406; have hfz10_0 := bf BK406 0; have hfz10_1 := bf BK406 1) | ((with_reducible refine gate_builtin (b := .append) (xs := #[.tmp 13, .tmp 19]) rfl ?_); at_builtin; refine Kd.R_append k65 (w0 := w) w.heap.size rfl (.tmp 13) (.tmp 19) 35 65 (.agg #[(.int .i64 0), (.bool false)]) 16 rfl Try.underlying35 info65 rfl (by decide) (by omega) u3 x3_1 (⟨(rd_T51 l0_1 x9_1).f0, (rd_T51 l0_1 x9_1).f1⟩ : S65) [.int .i64 ((rd_T51 l0_1 x9_1).f0), .bool ((rd_T51 l0_1 x9_1).f1)] (fun _ => True) (fun _ => False) rfl (by first | (go_simp; done) | (go_simp; rfl)) ?aP (fun _ hk => hk.elim) ?aF ?aO ?aB ?aS ?aL ?_; (case aP => exact k65_mkM _ _ _ (⟨(rd_T51 l0_1 x9_1).f0, (rd_T51 l0_1 x9_1).f1⟩ : S65)); (case aB => exact lb); (case aF => exact (fun _ _ => trivial)); (case aO => exact (by exact rx (Kd.R_mono (Kd.R_far (p := ⟨gb406, 1, none⟩) (Kd.R_far (p := ⟨gb406, 0, none⟩) (Kd.R_types HO_3.out BK406.out (by decide)) (fun _ hk => hk.2) (.int .i64 ((rd_T51 l0_1 x9_1).f0))) (fun _ hk => hk.2) (.bool ((rd_T51 l0_1 x9_1).f1))) (fun _ hk => trivial)))); (case aS => exact (below_size lb)); (case aL => have := LMc7.out; omega); intro v408 w11 ho hb hg hat; rw [← Ny407.out] at ho; have n_ := a4 (blk_grown (g := gb404) (o := .cells #[.int .i64 a0_0, .slice (some ad405) l0_1.length c0_1] 28 (0, 0)) (by (with_reducible repeat (first | refine blk_drewN ?_ _ | refine blk_drew ?_ | refine blk_alloc ?_ _)); refine blk_far ?_ NB404_406.out _; (with_reducible repeat (first | refine blk_drewN ?_ _ | refine blk_drew ?_ | refine blk_alloc ?_ _)); refine blk_far ?_ NB404_406.out _; exact bx BK404.out) hg (Kd.R_ne HO_3.out BK404.out (by decide))) (blk_grown (g := gb406) (o := .cells #[.int .i64 ((rd_T51 l0_1 x9_1).f0), .bool ((rd_T51 l0_1 x9_1).f1)] 51 (0, 0)) (by (with_reducible repeat (first | refine blk_drewN ?_ _ | refine blk_drew ?_ | refine blk_alloc ?_ _)); refine blk_put (cs := #[.int .i64 ((rd_T51 l0_1 x9_1).f0), .bool false]) ?_ 1 _ rfl; (with_reducible repeat (first | refine blk_drewN ?_ _ | refine blk_drew ?_ | refine blk_alloc ?_ _)); refine blk_put (cs := #[.int .i64 0, .bool false]) ?_ 0 _ rfl; exact bx BK406.out) hg (Kd.R_ne HO_3.out BK406.out (by decide))) hb ho; clear BK404 BK406 HB HO_3; obtain ⟨BK404, BK406, HB, HO409⟩ := n_; clear ho hb hg hat))
    go_roundg k1
    case measure => have := HK1.out; omega
    case rel => exact ⟨(y407), (wrap64 (x9_1 + 1)), (by first | rfl | (simp [*]; done)), H', ⟨by have := HK1.out; omega⟩, ⟨rx HO409.out⟩, ⟨bx BK404.out⟩, ⟨lb⟩⟩
   ·
    rw [if_neg c4] at H; have c4b0 : decide (x9_1 < (l0_1.length : Int)) = false := decide_eq_false c4; clear c4; obtain rfl := Option.some.inj H
    go_wp2
    go_ret
    exact ⟨_, by first | rfl | (simp [errW_none, errW_some] <;> rfl) | (simp [*, errW_none, errW_some] <;> rfl), by exact rx HO_3.out, lb⟩

end Go.Proofs.Ytplbkggdnonfbaa.Q
