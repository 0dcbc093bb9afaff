import Derived.Test.YtkdoihcjhccliaaV4
import Derived.Test.YtkdoihcjhccliaaQ0
import Derived.Test.YtkdoihcjhccliaaQ3
import Derived.Test.YtkdoihcjhccliaaQ67
namespace Go.Proofs.Ytkdoihcjhccliaa.Q
open Go.RowKit Go.Proofs.YtkdoihcjhccliaaW.PrintWords Go.Proofs.YtkdoihcjhccliaaW.PrintLast Go.Proofs.YtkdoihcjhccliaaW.PrintMore
attribute [local go_sem] max2_int min2_int max_two min_two max_three min_three max_four min_four   -- for this text's walks alone
set_option linter.unusedVariables false
set_option linter.unusedSimpArgs false

/-! ### compassref11_scaled: function 82 -/
def compassref11_scaled.l0 : Nat → Int → Int → Int → Int → List (S98) → Option (Int × (List (S98)))
  | 0, _, _, _, _, _ => none
  | k + 1, x1, x2, x8, x489000, x489001 => if x8 < (x489001.length : Int) then (if 0 ≤ x8 then (compassref11_scaled.l0 k x1 x2 (wrap64 (x8 + 1)) x489000 (x489001.set (x8 : Int).toNat (⟨(rd_T98 x489001 x8).f0, (rd_T98 x489001 x8).f1, (rd_T98 x489001 x8).f2, wrap64 ((wrap64 (((rd_T98 x489001 x8).f3) * x2)) - x1)⟩ : S98))) else (none)) else (some (x489000, x489001))
def compassref11_scaled.f (k : Nat) (a0_0 : Int) (l0_1 : List (S98)) (a1 : Int) (a2 : Int) : Option (Int × (List (S98))) := (compassref03_Copy.f k a0_0 l0_1).bind fun bt484 => (compassref11_scaled.l0 k a1 a2 0 bt484.1 bt484.2)
def compassref11_scaled.T5 : Bool × List (List Nat × List Nat) := (true, [([], []), ([0], [0]), ([], []), ([], []), ([3], [3]), ([], []), ([4, 5], [4, 5]), ([6], [6]), ([7], [7]), ([], []), ([8, 9], [8, 9]), ([], []), ([10, 11], [10, 11]), ([1, 2, 0, 1, 2, 3, 4, 5, 6, 7, 8, 9, 10, 11, 12], [1, 2]), ([13, 0, 1, 2, 3, 4, 5, 6, 7, 8, 9, 10, 11, 12], [13]), ([14, 12, 0, 1, 2, 3, 4, 5, 6, 7, 8, 9, 10, 11, 12], [12, 14])])
def compassref11_scaled.B5 : List Nat := [0, 1, 0, 0, 8, 0, 56, 120, 248, 0, 1016, 0, 4088, 8191, 16383, 32767]
theorem compassref11_scaled.tab5 : rtab .any (opsOf Try.f82 5) = compassref11_scaled.T5 := by kernel_rfl
theorem compassref11_scaled.bits5 : waitsOk compassref11_scaled.T5.2 compassref11_scaled.B5 = true := by kernel_rfl
set_option maxHeartbeats 8000000 in
set_option maxRecDepth 100000 in
theorem compassref11_scaled.calls (k : Nat) (a0_0 : Int) (A0_1 : Option Addr) (c0_1 : Nat) (l0_1 : List (S98)) (a1 : Int) (a2 : Int) (r1 : Int) (r2 : List (S98)) (w : World) (hr0_1 : Kd.C k98 w A0_1 l0_1.length l0_1) (hc0_1 : l0_1.length ≤ c0_1) (h : compassref11_scaled.f k a0_0 l0_1 a1 a2 = some (r1, r2)) :
    Calls Try.prog 82 #[.agg #[.int .i64 a0_0, .slice A0_1 l0_1.length c0_1], .int .i64 a1, .int .i64 a2] w fun e w' => ∃ v1_ : Value, e = .returned (.agg #[.int .i64 r1, v1_]) ∧ Kd.R k98 98 w' w.heap.size (fun _ => True) v1_ r2 ∧ Below w.heap.size w w' := by
 have hu24 := Try.underlying24; have HR0_1 := ak hr0_1; have HC0_1 := ak hc0_1; clear hr0_1 hc0_1; have HB := ak (Below.refl w.heap.size w); have H : ((compassref03_Copy.f k a0_0 l0_1).bind fun bt484 => (compassref11_scaled.l0 k a1 a2 0 bt484.1 bt484.2)) = some (r1, r2) := h; clear h; replace H := Option.bind_eq_some_iff.mp H; obtain ⟨⟨t484, t485⟩, A40, H⟩ := H; dsimp only at H; have A4 := ak A40; clear A40; have H' := ak H; clear H
 go_enter Try.func82, Try.ntmps82
 go_wp2_with (first | ((with_reducible refine gate_dst (N := 3) rfl ?_); refine bxe 3 #[.int .i64 a0_0, .slice A0_1 l0_1.length c0_1] 24 ?_; intro gb482 hg w5 hbox hb; have n_ := a4 (bl hb) hbox (gw w hg) (gw w hg); clear HB; obtain ⟨HB, BK482, GW482, GE482⟩ := n_; clear hb hbox hg) | ((with_reducible refine gate_dst (N := 6) rfl ?_); refine bxe 6 #[.int .i64 0, .slice none 0 0] 24 ?_; intro gb483 hg w6 hbox hb; have n_ := a7 (bo BK482 hb) (bl hb) hbox (gw w hg) (gw w hg) (nl hg BK482) (nr hg BK482); clear BK482 HB; obtain ⟨BK482, HB, BK483, GW483, GE483, NB482_483, NB483_482⟩ := n_; clear hb hbox hg; have ⟨_, _⟩ := nn NB482_483; have ⟨_, _, _, _⟩ := cf2 BK482) | ((with_reducible refine gate_callee (f := 70) rfl ?_); refine gl 10 Try.func70 #[.agg #[.int .i64 a0_0, .slice A0_1 l0_1.length c0_1]] ?_; (with_reducible refine (compassref03_Copy.calls k a0_0 _ _ l0_1 t484 t485 _ (Kd.C_below HR0_1.out lb) HC0_1.out A4.out).mono ?_); rintro e w9 ⟨v486, rfl, ho0, hb⟩; refine ⟨_, rfl, ?_⟩; have n_ := a4 (Kd.R_lower ho0 (below_size lb)) (bo BK482 hb) (bo BK483 hb) (bl hb); clear BK482 BK483 HB; obtain ⟨HO487, BK482, BK483, HB⟩ := n_; clear hb; (try clear ho0)) | ((with_reducible refine gate_dst (N := 7) rfl ?_); refine bxe 7 #[.int .i64 0, .slice none 0 0] 24 ?_; intro gb488 hg w10 hbox hb; have n_ := a11 (ro HO487 hb) (bo BK482 hb) (bo BK483 hb) (bl hb) hbox (gw w hg) (gw w hg) (nl hg BK482) (nr hg BK482) (nl hg BK483) (nr hg BK483); clear HO487 BK482 BK483 HB; obtain ⟨HO487, BK482, BK483, HB, BK488, GW488, GE488, NB482_488, NB488_482, NB483_488, NB488_483⟩ := n_; clear hb hbox hg; have ⟨_, _⟩ := nn NB488_482; have ⟨_, _⟩ := nn NB488_483; have ⟨_, _, _, _⟩ := cf2 BK488; obtain ⟨Ao14, co14, eo14⟩ := Kd.R_slice HO487.out; subst eo14))
 go_loopg [8] k (fun kq v8 w' => ∃ (x8_1 : Int) (x489001_1 : List (S98)) (u489001 : Value), v8 = .int .i64 x8_1 ∧ Aside0 (compassref11_scaled.l0 kq a1 a2 x8_1 t484 x489001_1 = some (r1, r2)) ∧ Aside0 (kq ≤ k) ∧ Aside0 (Kd.R k98 98 w' w.heap.size (fun _ => True) u489001 x489001_1) ∧ Aside0 (w'.heap[gb482]? = some (.cells #[.int .i64 a0_0, (.slice A0_1 l0_1.length c0_1)] 24 (0, 0))) ∧ Aside0 (w'.heap[gb483]? = some (.cells #[.int .i64 0, (.slice none 0 0)] 24 (0, 0))) ∧ Aside0 (w'.heap[gb488]? = some (.cells #[.int .i64 t484, u489001] 24 (0, 0))) ∧ Aside0 (Below w.heap.size w w'))
 case atStart => exact ⟨(0), (t485), (.slice Ao14 t485.length co14), sr, H', ⟨Nat.le_refl _⟩, ⟨by exact rx (Kd.R_mono (Kd.R_far (p := ⟨gb488, 1, none⟩) (Kd.R_far (p := ⟨gb488, 0, none⟩) (Kd.R_types HO487.out BK488.out (by decide)) (fun _ hk => hk.2) (.int .i64 t484)) (fun _ hk => hk.2) (.slice Ao14 t485.length co14)) (fun _ hk => trivial))⟩, ⟨by (with_reducible repeat (first | refine blk_drewN ?_ _ | refine blk_drew ?_ | refine blk_alloc ?_ _)); refine blk_far ?_ NB482_488.out _; (with_reducible repeat (first | refine blk_drewN ?_ _ | refine blk_drew ?_ | refine blk_alloc ?_ _)); refine blk_far ?_ NB482_488.out _; exact bx BK482.out⟩, ⟨by (with_reducible repeat (first | refine blk_drewN ?_ _ | refine blk_drew ?_ | refine blk_alloc ?_ _)); refine blk_far ?_ NB483_488.out _; (with_reducible repeat (first | refine blk_drewN ?_ _ | refine blk_drew ?_ | refine blk_alloc ?_ _)); refine blk_far ?_ NB483_488.out _; exact bx BK483.out⟩, ⟨by (with_reducible repeat (first | refine blk_drewN ?_ _ | refine blk_drew ?_ | refine blk_alloc ?_ _)); refine blk_put (cs := #[.int .i64 t484, .slice none 0 0]) ?_ 1 _ rfl; (with_reducible repeat (first | refine blk_drewN ?_ _ | refine blk_drew ?_ | refine blk_alloc ?_ _)); refine blk_put (cs := #[.int .i64 0, .slice none 0 0]) ?_ 0 _ rfl; exact bx BK488.out⟩, ⟨lb⟩⟩
 clear H'; obtain ⟨x8_1, x489001_1, u489001, rfl, HA, HK1, HO_489001, BK482, BK483, BK488, HB⟩ := hrel
 cases gk with
 | zero => exact absurd HA.out (by simp [compassref11_scaled.l0])
 | succ k1 => ?_
 have H := HA.out; clear HA
 simp only [compassref11_scaled.l0] at H
 by_cases c15 : x8_1 < (x489001_1.length : Int)
 rotate_left
 ·
  rw [if_neg c15] at H; have c15b0 := decide_eq_false c15; clear c15
  simp only [Option.some.injEq, Prod.mk.injEq] at H
  obtain ⟨rfl, rfl⟩ := H; have ⟨_, _⟩ := nn NB488_482; have ⟨_, _⟩ := nn NB488_483; have ⟨_, _, _, _⟩ := cf2 BK488; obtain ⟨Ao27, co27, eo27⟩ := Kd.R_slice HO_489001.out; subst eo27; have ⟨_, _⟩ := nn NB483_482; have ⟨_, _, _, _⟩ := cf2 BK483
  go_wp2
  refine bodyPost_ret (results_cell_row rfl _ _ gb483 24 #[.int .i64 t484, .slice Ao27 x489001_1.length co27] (0, 0) _ rfl (by (with_reducible repeat (first | refine blk_drewN ?_ _ | refine blk_drew ?_ | refine blk_alloc ?_ _)); refine blk_put (cs := #[.int .i64 t484, .slice none 0 0]) ?_ 1 _ rfl; (with_reducible repeat (first | refine blk_drewN ?_ _ | refine blk_drew ?_ | refine blk_alloc ?_ _)); refine blk_put (cs := #[.int .i64 0, .slice none 0 0]) ?_ 0 _ rfl; exact bx BK483.out) Try.underlying24 rfl (by kernel_rfl)) rfl ?_
  exact ⟨_, by first | rfl | (simp [errW_none, errW_some] <;> rfl) | (simp [*, errW_none, errW_some] <;> rfl), by exact rx (Kd.R_mono (Kd.R_far (p := ⟨gb483, 1, none⟩) (Kd.R_far (p := ⟨gb483, 0, none⟩) (Kd.R_types HO_489001.out BK483.out (by decide)) (fun _ hk => hk.2) (.int .i64 t484)) (fun _ hk => hk.2) (.slice Ao27 x489001_1.length co27)) (fun _ hk => trivial)), lb⟩
 rw [if_pos c15] at H; have c15b0 := decide_eq_true c15; clear c15; replace H := ifd H; obtain ⟨c16b0, H⟩ := H; obtain ⟨y490, hy490⟩ : ∃ y_ : List (S98), y_ = (x489001_1.set (x8_1 : Int).toNat (⟨(rd_T98 x489001_1 x8_1).f0, (rd_T98 x489001_1 x8_1).f1, (rd_T98 x489001_1 x8_1).f2, wrap64 ((wrap64 (((rd_T98 x489001_1 x8_1).f3) * a2)) - a1)⟩ : S98)) := ⟨_, rfl⟩; replace H : (compassref11_scaled.l0 k1 a1 a2 (wrap64 (x8_1 + 1)) t484 y490) = some (r1, r2) := by first | (rw [hy490]; exact H) | exact H
 have Ny490 := ak hy490; clear hy490; have H' := ak H; clear H; have ⟨_, _⟩ := nn NB488_482; have ⟨_, _⟩ := nn NB488_483; have ⟨_, _, _, _⟩ := cf2 BK488; obtain ⟨Ao21, co21, eo21⟩ := Kd.R_slice HO_489001.out; subst eo21
 try go_wp2
 have n_ := a5 (Kd.R_drew HO_489001.out) (blk_drew BK482.out) (blk_drew BK483.out) (blk_drew BK488.out) (below_drew1 HB.out); clear HO_489001 BK482 BK483 BK488 HB; obtain ⟨HO_489001, BK482, BK483, BK488, HB⟩ := n_; obtain ⟨p489, q489, ad489, e489, hx489_0, hx489_1, hx489_2, hx489_3⟩ := wq (at_T98 (Kd.R_reads' HO_489001.out).2.2 x8_1); cases e489; have p17 : 0 ≤ (x8_1 : Int) := oda; have q17 : (x8_1 : Int) < ((x489001_1.length : Int) : Int) := oda
 obtain ⟨go17, co17, eo17, gb17, gl17, cl17, HG17⟩ := Kd.R_form HO_489001.out (by omega)
 (first | cases eo17 | (injection eo17 with ea_ en_ ec_; (first | subst ea_ | (injection ea_ with ea_; subst ea_)); subst ec_; clear en_))
 have GB17 := ak gb17; have GG17 := ak HG17; clear gb17 gl17 HG17
 (first | simp only [add_plain] at hx489_0 | skip)
 (first | simp only [add_plain] at hx489_1 | skip)
 (first | simp only [add_plain] at hx489_2 | skip)
 (first | simp only [add_plain] at hx489_3 | skip)
 obtain ⟨ce17, hcl17, hM17, hcc17, hfr17⟩ := Kd.R_elem HO_489001.out z98 (x8_1 : Int) p17 q17; obtain rfl := k98_openM hM17; have hx17_0 : World.cell? _ ⟨go17, (x8_1 : Int).toNat * 4, none⟩ = some (.int .i64 ((rd_T98 x489001_1 x8_1).f0)) := hcc17 0 _ rfl; have hx17_1 : World.cell? _ ⟨go17, (x8_1 : Int).toNat * 4 + 1, none⟩ = some (.int .i64 ((rd_T98 x489001_1 x8_1).f1)) := hcc17 1 _ rfl; have hx17_2 : World.cell? _ ⟨go17, (x8_1 : Int).toNat * 4 + 2, none⟩ = some (.int .i64 ((rd_T98 x489001_1 x8_1).f2)) := hcc17 2 _ rfl; have hx17_3 : World.cell? _ ⟨go17, (x8_1 : Int).toNat * 4 + 3, none⟩ = some (.int .i64 ((rd_T98 x489001_1 x8_1).f3)) := hcc17 3 _ rfl; have hf17_0 : World.frozen? _ ⟨go17, (x8_1 : Int).toNat * 4, none⟩ = false := hfr17 0; have hf17_1 : World.frozen? _ ⟨go17, (x8_1 : Int).toNat * 4 + 1, none⟩ = false := hfr17 1; have hf17_2 : World.frozen? _ ⟨go17, (x8_1 : Int).toNat * 4 + 2, none⟩ = false := hfr17 2; have hf17_3 : World.frozen? _ ⟨go17, (x8_1 : Int).toNat * 4 + 3, none⟩ = false := hfr17 3; clear hcl17 hcc17 hfr17 hM17; replace p17 := eq_true p17; replace q17 := eq_true q17
 obtain ⟨ce23, hcl23, hM23, hcc23, hfr23⟩ := Kd.R_elem HO_489001.out z98 (x8_1 : Int) (oda) (by have h_ : (x8_1 : Int) < ((x489001_1.length : Int) : Int) := oda; first | exact h_ | (have e_ := (Kd.R_reads' HO_489001.out).1; omega) | simpa using h_)
 obtain rfl := k98_openM hM23; have HP23 := (Kd.R_seg HO_489001.out (x8_1 : Int) (oda) (by have h_ : (x8_1 : Int) < ((x489001_1.length : Int) : Int) := oda; first | exact h_ | (have e_ := (Kd.R_reads' HO_489001.out).1; omega) | simpa using h_) (seg := [.int .i64 (wrap64 ((wrap64 (((rd_T98 x489001_1 x8_1).f3) * a2)) - a1))]) (j := 3) hcl23 hcc23 (show 4 ≤ 4 from by decide) (x' := (⟨(rd_T98 x489001_1 x8_1).f0, (rd_T98 x489001_1 x8_1).f1, (rd_T98 x489001_1 x8_1).f2, wrap64 ((wrap64 (((rd_T98 x489001_1 x8_1).f3) * a2)) - a1)⟩ : S98)) (k98_mkM _ _ _ (⟨(rd_T98 x489001_1 x8_1).f0, (rd_T98 x489001_1 x8_1).f1, (rd_T98 x489001_1 x8_1).f2, wrap64 ((wrap64 (((rd_T98 x489001_1 x8_1).f3) * a2)) - a1)⟩ : S98) ) (fun _ hk => hk)).1
 rw [← Ny490.out] at HP23; have HQ23 := ak HP23; clear hcl23 hcc23 hfr23 hM23 HP23
 refine stC 16 [15] (cX (bc0 BK488) (cX (bc1 BK488) (cX hx489_0 (cX hx489_1 (cX hx489_2 (cY hx489_3)))))) compassref11_scaled.tab5 compassref11_scaled.bits5 fun hHeld HT_ HW_ => ?_
 generalize wr.drew = w22 at HO_489001 BK482 BK483 BK488 HB GG17 HQ23 hf17_0 hf17_1 hf17_2 hf17_3 hx17_0 hx17_1 hx17_2 hx17_3 hx489_0 hx489_1 hx489_2 hx489_3 hHeld ⊢
 refine pv HT_ 0 18 ?_; refine pv HT_ 2 20 ?_; refine pv HT_ 3 21 ?_; refine pv HT_ 5 23 ?_; refine pv HT_ 9 27 ?_; refine pv HT_ 11 29 ?_; refine tv HT_ HW_ hHeld 1 19 ?_; refine tv HT_ HW_ hHeld 4 22 ?_; refine pv HT_ 6 24 ?_; refine pv HT_ 7 25 ?_; refine tv HT_ HW_ hHeld 8 26 ?_; refine pv HT_ 10 28 ?_; refine pv HT_ 12 30 ?_; refine pv HT_ 13 31 ?_; refine pv HT_ 14 32 ?_
 refine last_ (i := 15) (N := none) #[T, T, T, T, T, T, T, T, T, T, T, T, T, T, T, T] rfl rfl (one_of HT_.out (by kernel_rfl)) (by decide) (fun K hK => ?_)
 refine skip_ (w1 := ?_) (by rfl) rfl ?_ ?_
 rotate_left
 ·
  go_simp
  rfl
 refine hK.out _ _ ?_
 clear hK K
 refine done_ (done_of HT_.out (by kernel_rfl)) ?_
 try go_wp2
 go_roundg k1
 case measure => have := HK1.out; omega
 case rel => exact ⟨(wrap64 (x8_1 + 1)), (y490), (.slice (some ⟨go17, 0, none⟩) x489001_1.length co21), sr, H', ⟨by have := HK1.out; omega⟩, ⟨by (with_reducible repeat (first | apply Kd.R_alloc | apply Kd.R_drewN | apply Kd.R_drew)); exact HQ23.out⟩, ⟨by (with_reducible repeat (first | refine blk_drewN ?_ _ | refine blk_drew ?_ | refine blk_alloc ?_ _)); refine blk_far ?_ (by have h_ := Kd.R_ne HO_489001.out BK482.out (by decide); intro e_; exact h_ (by rw [e_]; rfl)) _; exact bx BK482.out⟩, ⟨by (with_reducible repeat (first | refine blk_drewN ?_ _ | refine blk_drew ?_ | refine blk_alloc ?_ _)); refine blk_far ?_ (by have h_ := Kd.R_ne HO_489001.out BK483.out (by decide); intro e_; exact h_ (by rw [e_]; rfl)) _; exact bx BK483.out⟩, ⟨by (with_reducible repeat (first | refine blk_drewN ?_ _ | refine blk_drew ?_ | refine blk_alloc ?_ _)); refine blk_far ?_ (by have h_ := Kd.R_ne HO_489001.out BK488.out (by decide); intro e_; exact h_ (by rw [e_]; rfl)) _; exact bx BK488.out⟩, ⟨by repeat (first | (with_reducible first | exact HB.out | apply below_alloc | apply pw_below_drewN | apply below_drew1 | refine below_set ?_ GB17.out | refine below_set ?_ GE482.out | refine below_set ?_ GE483.out | refine below_set ?_ GE488.out) | exact HB.out)⟩⟩
end Go.Proofs.Ytkdoihcjhccliaa.Q
