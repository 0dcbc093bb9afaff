import Derived.Test.YtplbkggdnonfbaaQ0
import Derived.Test.YtplbkggdnonfbaaQ12
namespace Go.Proofs.Ytplbkggdnonfbaa.Q
open Go.RowKit Go.Proofs.YtplbkggdnonfbaaW.PrintWords Go.Proofs.YtplbkggdnonfbaaW.PrintLast Go.Proofs.YtplbkggdnonfbaaW.PrintMore
attribute [local go_sem] max2_int min2_int max_two min_two max_three min_three max_four min_four   -- for this text's walks alone
set_option linter.unusedVariables false
set_option linter.unusedSimpArgs false

/-! ### euler_Covers: function 15 -/
mutual
def euler_Covers.j0 : Nat → Bool → Bool → Int → List (S45) → Int → List (S51) → Option (Bool)
  | 0, _, _, _, _, _, _ => none
  | k + 1, x2, x34, x286000, x286001, x287000, x287001 => if x34 = true then (some false) else (if 0 ≤ (x286001.length : Int) then (if ((x286001.length : Int) : Int).toNat ≤ 281474976710656 then (euler_Covers.l0 k x2 (List.replicate ((x286001.length : Int) : Int).toNat false) x287001 (x287001.length : Int) 0) else (none)) else (none))
def euler_Covers.l0 : Nat → Bool → List Bool → List (S51) → Int → Int → Option (Bool)
  | 0, _, _, _, _, _ => none
  | k + 1, x2, x9, x40, x41, x42 => if x42 < x41 then (if 0 ≤ x42 then (if x42 < (x40.length : Int) then (if 0 ≤ ((rd_T51 x40 x42).f0) then (if ((rd_T51 x40 x42).f0) < (x9.length : Int) then (if rdOf false x9 ((rd_T51 x40 x42).f0) = true then (some false) else (if x2 = true then (if (rd_T51 x40 x42).f1 = true then (some false) else (euler_Covers.l0 k x2 (x9.set (((rd_T51 x40 x42).f0) : Int).toNat true) x40 x41 (wrap64 (x42 + 1)))) else (euler_Covers.l0 k x2 (x9.set (((rd_T51 x40 x42).f0) : Int).toNat true) x40 x41 (wrap64 (x42 + 1))))) else (none)) else (none)) else (none)) else (none)) else (some true)
end
def euler_Covers.f (k : Nat) (a0_0 : Int) (l0_1 : List (S45)) (a1_0 : Int) (l1_1 : List (S51)) (a2 : Bool) : Option (Bool) := (euler_End.f k a0_0 l0_1 a1_0 l1_1).bind fun bt287 => (if bt287.2 = 0 then (if bt287.1 = a1_0 then (euler_Covers.j0 k a2 ((l1_1.length : Int) != (l0_1.length : Int)) a0_0 l0_1 a1_0 l1_1) else (euler_Covers.j0 k a2 true a0_0 l0_1 a1_0 l1_1)) else (euler_Covers.j0 k a2 true a0_0 l0_1 a1_0 l1_1))
theorem euler_Covers.mono_l : ∀ k, (∀ y0 y1 y2 y3 y4 y5, LeO (euler_Covers.j0 k y0 y1 y2 y3 y4 y5) (euler_Covers.j0 (k + 1) y0 y1 y2 y3 y4 y5)) ∧ (∀ y0 y1 y2 y3 y4, LeO (euler_Covers.l0 k y0 y1 y2 y3 y4) (euler_Covers.l0 (k + 1) y0 y1 y2 y3 y4))
  | 0 => ⟨fun _ _ _ _ _ _ r h => by simp [euler_Covers.j0] at h, fun _ _ _ _ _ r h => by simp [euler_Covers.l0] at h⟩
  | k + 1 => by
    obtain ⟨ih0, ih1⟩ := euler_Covers.mono_l k
    refine ⟨?_, ?_⟩
    · intro y0 y1 y2 y3 y4 y5
      unfold euler_Covers.j0
      repeat' first
      | (with_reducible exact ih0 _ _ _ _ _ _)
      | (with_reducible exact ih1 _ _ _ _ _)
      | (with_reducible exact euler_End.mono _ _ _ _ _)
      | (with_reducible exact LeO.refl _)
      | (with_reducible exact LeO.none _)
      | (with_reducible refine LeO.ite ?_ ?_)
      | (with_reducible refine LeO.bind ?_ (fun _ => ?_))
      | exact ih0 _ _ _ _ _ _
      | exact ih1 _ _ _ _ _
      | exact euler_End.mono _ _ _ _ _
      | exact LeO.none _
      | refine LeO.ite ?_ ?_
      | refine LeO.bind ?_ (fun _ => ?_)
    · intro y0 y1 y2 y3 y4
      unfold euler_Covers.l0
      repeat' first
      | (with_reducible exact ih0 _ _ _ _ _ _)
      | (with_reducible exact ih1 _ _ _ _ _)
      | (with_reducible exact euler_End.mono _ _ _ _ _)
      | (with_reducible exact LeO.refl _)
      | (with_reducible exact LeO.none _)
      | (with_reducible refine LeO.ite ?_ ?_)
      | (with_reducible refine LeO.bind ?_ (fun _ => ?_))
      | exact ih0 _ _ _ _ _ _
      | exact ih1 _ _ _ _ _
      | exact euler_End.mono _ _ _ _ _
      | exact LeO.none _
      | refine LeO.ite ?_ ?_
      | refine LeO.bind ?_ (fun _ => ?_)
theorem euler_Covers.mono : ∀ a0 a1 a2 a3 a4 k, LeO (euler_Covers.f k a0 a1 a2 a3 a4) (euler_Covers.f (k + 1) a0 a1 a2 a3 a4) := by
  intro a0 a1 a2 a3 a4 k
  obtain ⟨ih0, ih1⟩ := euler_Covers.mono_l k
  unfold euler_Covers.f
  repeat' first
      | (with_reducible exact ih0 _ _ _ _ _ _)
      | (with_reducible exact ih1 _ _ _ _ _)
      | (with_reducible exact euler_End.mono _ _ _ _ _)
      | (with_reducible exact LeO.refl _)
      | (with_reducible exact LeO.none _)
      | (with_reducible refine LeO.ite ?_ ?_)
      | (with_reducible refine LeO.bind ?_ (fun _ => ?_))
      | exact ih0 _ _ _ _ _ _
      | exact ih1 _ _ _ _ _
      | exact euler_End.mono _ _ _ _ _
      | exact LeO.none _
      | refine LeO.ite ?_ ?_
      | refine LeO.bind ?_ (fun _ => ?_)
set_option maxHeartbeats 8000000 in
set_option maxRecDepth 100000 in
theorem euler_Covers.calls (k : Nat) (a0_0 : Int) (A0_1 : Option Addr) (c0_1 : Nat) (l0_1 : List (S45)) (a1_0 : Int) (A1_1 : Option Addr) (c1_1 : Nat) (l1_1 : List (S51)) (a2 : Bool) (r : Bool) (w : World) (hr0_1 : Kd.C k45 w A0_1 l0_1.length l0_1) (hc0_1 : l0_1.length ≤ c0_1) (hr1_1 : Kd.C k51 w A1_1 l1_1.length l1_1) (hc1_1 : l1_1.length ≤ c1_1) (h : euler_Covers.f k a0_0 l0_1 a1_0 l1_1 a2 = some r) :
    Calls Try.prog 15 #[.agg #[.int .i64 a0_0, .slice A0_1 l0_1.length c0_1], .agg #[.int .i64 a1_0, .slice A1_1 l1_1.length c1_1], .bool a2] w fun e w' => e = .returned (.bool r) ∧ Below w.heap.size w w' := by
 have hu24 := Try.underlying24; have hu28 := Try.underlying28; have hu51 := Try.underlying51; have HR0_1 := ak hr0_1; have HC0_1 := ak hc0_1; clear hr0_1 hc0_1; have HR1_1 := ak hr1_1; have HC1_1 := ak hc1_1; clear hr1_1 hc1_1; have HB := ak (Below.refl w.heap.size w); have H : ((euler_End.f k a0_0 l0_1 a1_0 l1_1).bind fun bt287 => (if bt287.2 = 0 then (if bt287.1 = a1_0 then (euler_Covers.j0 k a2 ((l1_1.length : Int) != (l0_1.length : Int)) a0_0 l0_1 a1_0 l1_1) else (euler_Covers.j0 k a2 true a0_0 l0_1 a1_0 l1_1)) else (euler_Covers.j0 k a2 true a0_0 l0_1 a1_0 l1_1))) = some r := h; clear h; replace H := Option.bind_eq_some_iff.mp H; obtain ⟨⟨t287, t288⟩, A40, H⟩ := H; replace H : (if t288 = 0 then (if t287 = a1_0 then (euler_Covers.j0 k a2 ((l1_1.length : Int) != (l0_1.length : Int)) a0_0 l0_1 a1_0 l1_1) else (euler_Covers.j0 k a2 true a0_0 l0_1 a1_0 l1_1)) else (euler_Covers.j0 k a2 true a0_0 l0_1 a1_0 l1_1)) = some r := H; have A4 := ak A40; clear A40; have HC5 := ak H; clear H
 go_enter Try.func15, Try.ntmps15
 go_upto_region 2 with (first | ((with_reducible refine gate_dst (N := 3) rfl ?_); (try (refine gate_guard (by rfl) ?_; dsimp only)); refine box_event ?hg (N := 3) ?hd (cs := #[.int .i64 a0_0, .slice A0_1 l0_1.length c0_1]) (t := 24) ?hr ?_; (case hd => rfl); (case hg => rfl); (case hr => first | (go_simp; done) | (go_simp; rfl)); intro gb285 hg w6 hbox hb; have n_ := a4 (below_step lb hb) hbox (gw w hg) (gw w hg); clear HB; obtain ⟨HB, BK285, GW285, GE285⟩ := n_; clear hb hbox hg) | ((with_reducible refine gate_dst (N := 4) rfl ?_); (try (refine gate_guard (by rfl) ?_; dsimp only)); refine box_event ?hg (N := 4) ?hd (cs := #[.int .i64 a1_0, .slice A1_1 l1_1.length c1_1]) (t := 28) ?hr ?_; (case hd => rfl); (case hg => rfl); (case hr => first | (go_simp; done) | (go_simp; rfl)); intro gb286 hg w7 hbox hb; have n_ := a7 (blk_below (bx BK285.out) hb) (below_step lb hb) hbox (gw w hg) (gw w hg) (nl hg BK285) (nr hg BK285); clear BK285 HB; obtain ⟨BK285, HB, BK286, GW286, GE286, NB285_286, NB286_285⟩ := n_; clear hb hbox hg; have hnb8 := NB285_286.out; have hnc8 := NB286_285.out; have hcz9_0 := bc0 BK285; have hcz9_1 := bc1 BK285; have hfz9_0 := bf BK285 0; have hfz9_1 := bf BK285 1; have hcz10_0 := bc0 BK286; have hcz10_1 := bc1 BK286; have hfz10_0 := bf BK286 0; have hfz10_1 := bf BK286 1) | ((with_reducible refine gate_callee (f := 13) rfl ?_); refine goesZ (some 15) rfl rfl Try.func13 (by kernel_rfl) rfl #[.agg #[.int .i64 a0_0, .slice A0_1 l0_1.length c0_1], .agg #[.int .i64 a1_0, .slice A1_1 l1_1.length c1_1]] rfl ?_; (with_reducible refine (euler_End.calls k a0_0 _ _ l0_1 a1_0 _ _ l1_1 t287 t288 _ ?side1 ?side2 ?side3 ?side4 A4.out).mono ?_); (case side1 => exact Kd.C_below HR0_1.out lb); (case side2 => exact HC0_1.out); (case side3 => exact Kd.C_below HR1_1.out lb); (case side4 => exact HC1_1.out); rintro e w11 ⟨rfl, hb⟩; refine ⟨_, rfl, ?_⟩; have n_ := a3 (blk_below (bx BK285.out) hb) (blk_below (bx BK286.out) hb) (below_step lb hb); clear BK285 BK286 HB; obtain ⟨BK285, BK286, HB⟩ := n_; (try clear hb); (try clear hb2); (try clear hk); (try clear hi)))
 (try simp only [Act.put, sA, sZ, sS])
 go_cut [34] (fun v34 wc => ∃ (kq : Nat) (x34_4 : Bool), v34 = .bool x34_4 ∧ Aside0 (euler_Covers.j0 kq a2 x34_4 a0_0 l0_1 a1_0 l1_1 = some r) ∧ Aside0 (kq ≤ k) ∧ Aside0 (wc.heap[gb285]? = some (.cells #[.int .i64 a0_0, (.slice A0_1 l0_1.length c0_1)] 24 (0, 0))) ∧ Aside0 (wc.heap[gb286]? = some (.cells #[.int .i64 a1_0, (.slice A1_1 l1_1.length c1_1)] 28 (0, 0))) ∧ Aside0 (Below w.heap.size w wc))
 case first =>
  have H := HC5.out; clear HC5
  by_cases c12 : t288 = 0
  ·
   rw [if_pos c12] at H; have c12b0 : (t288 == 0) = true := beq_iff_eq.mpr c12; have c12b1 : (t288 != 0) = false := bne_eq_false_iff_eq.mpr c12; clear c12
   (first | rw [c12b0] | (simp only [i64_w, i32_w]; rw [c12b0]) | skip)
   by_cases c13 : t287 = a1_0
   ·
    rw [if_pos c13] at H; have c13b0 : (t287 == a1_0) = true := beq_iff_eq.mpr c13; have c13b1 : (t287 != a1_0) = false := bne_eq_false_iff_eq.mpr c13; clear c13; have H' := ak H; clear H; have hnb14 := NB286_285.out; have hnc14 := NB285_286.out; have hcz15_0 := bc0 BK286; have hcz15_1 := bc1 BK286; have hfz15_0 := bf BK286 0; have hfz15_1 := bf BK286 1; have hcz16_0 := bc0 BK285; have hcz16_1 := bc1 BK285; have hfz16_0 := bf BK285 0; have hfz16_1 := bf BK285 1
    go_wp2
    go_meet
    case rel => exact ⟨_, (((l1_1.length : Int) != (l0_1.length : Int))), (by first | rfl | (simp [*]; done)), H', ⟨by first | omega | exact Nat.le_refl _⟩, ⟨bx BK285.out⟩, ⟨bx BK286.out⟩, ⟨lb⟩⟩
   ·
    rw [if_neg c13] at H; have c13b0 : (t287 == a1_0) = false := beq_eq_false_iff_ne.mpr c13; have c13b1 : (t287 != a1_0) = true := bne_iff_ne.mpr c13; have H' := ak H; clear H; have hnb17 := NB286_285.out; have hnc17 := NB285_286.out; have hcz18_0 := bc0 BK286; have hcz18_1 := bc1 BK286; have hfz18_0 := bf BK286 0; have hfz18_1 := bf BK286 1
    go_wp2
    go_meet
    case rel => exact ⟨_, (true), (by first | rfl | (simp [*]; done)), H', ⟨by first | omega | exact Nat.le_refl _⟩, ⟨bx BK285.out⟩, ⟨bx BK286.out⟩, ⟨lb⟩⟩
  ·
   rw [if_neg c12] at H; have c12b0 : (t288 == 0) = false := beq_eq_false_iff_ne.mpr c12; have c12b1 : (t288 != 0) = true := bne_iff_ne.mpr c12
   (first | rw [c12b0] | (simp only [i64_w, i32_w]; rw [c12b0]) | skip)
   have H' := ak H; clear H
   go_wp2
   go_meet
   case rel => exact ⟨_, (true), (by first | rfl | (simp [*]; done)), H', ⟨by first | omega | exact Nat.le_refl _⟩, ⟨bx BK285.out⟩, ⟨bx BK286.out⟩, ⟨lb⟩⟩
 case rest =>
  clear HC5; obtain ⟨kq, x34_4, rfl, HA, HJ4, BK285, BK286, HB⟩ := hcut
  cases kq with
  | zero => exact absurd HA.out (by simp [euler_Covers.j0])
  | succ kj4 =>
   have H := HA.out; clear HA
   simp only [euler_Covers.j0] at H
   by_cases c19 : x34_4 = true
   ·
    subst c19
    have H1 : (some false) = some r := by rw [if_pos rfl] at H; exact H
    clear H; have H := H1; clear H1; obtain rfl := Option.some.inj H
    go_wp2
    go_ret
    exact ⟨by first | rfl | (simp [errW_none, errW_some] <;> rfl) | (simp [*, errW_none, errW_some] <;> rfl), lb⟩
   ·
    replace c19 := Bool.eq_false_iff.mpr c19; subst c19
    have H1 : (if 0 ≤ (l0_1.length : Int) then (if ((l0_1.length : Int) : Int).toNat ≤ 281474976710656 then (euler_Covers.l0 kj4 a2 (List.replicate ((l0_1.length : Int) : Int).toNat false) l1_1 (l1_1.length : Int) 0) else (none)) else (none)) = some r := by rw [if_neg (show ¬ (false = true) by decide)] at H; exact H
    clear H; have H := H1; clear H1; replace H := ife H; obtain ⟨c20b0, c20b1, H⟩ := H; replace H := ife H; obtain ⟨c21b0, c21b1, H⟩ := H; obtain ⟨y289, hy289⟩ : ∃ y_ : List Bool, y_ = (List.replicate ((l0_1.length : Int) : Int).toNat false) := ⟨_, rfl⟩; rw [← hy289] at H; have Ny289 := ak hy289; clear hy289; have H' := ak H; clear H; have hnb22 := NB285_286.out; have hnc22 := NB286_285.out; have hcz23_0 := bc0 BK285; have hcz23_1 := bc1 BK285; have hfz23_0 := bf BK285 0; have hfz23_1 := bf BK285 1
    go_wp2_with (first | ((with_reducible refine gate_dst (N := 38) rfl ?_); (try (refine gate_guard (by rfl) ?_; dsimp only)); refine Kd.R_make Kd.bool _ 4 rfl (N := 38) rfl 67 _ _ rfl (l0_1.length : Int) rfl rfl Try.underlying67 (.bool false) 1 info4 rfl (by decide) (by omega) false (ok := fun _ => True) (okp := fun _ => True) rfl (fun _ hk => hk) trivial (oda) (Nat.le_trans (Nat.mul_le_mul_right _ (oda : (l0_1.length : Int).toNat ≤ 281474976710656)) (by omega)) (Below.refl _ _) (Nat.le_refl _) ?_; intro v290 w24 ho25 hb hg_ hnew_; clear hg_ hnew_; (first | rw [← Ny289.out] at ho25 | (simp only [Int.reduceToNat] at ho25; rw [← Ny289.out] at ho25)); have n_ := a4 (Kd.R_lower ho25 (below_size lb)) (blk_below (bx BK285.out) hb) (blk_below (bx BK286.out) hb) (below_step lb hb); clear BK285 BK286 HB; obtain ⟨HO291, BK285, BK286, HB⟩ := n_; clear hb ho25; have hcz26_0 := bc0 BK286; have hcz26_1 := bc1 BK286; have hfz26_0 := bf BK286 0; have hfz26_1 := bf BK286 1))
    go_loopg [42] kj4 (fun kq v42 w' => ∃ (x9_2 : List Bool) (x42_2 : Int), v42 = .int .i64 x42_2 ∧ Aside0 (euler_Covers.l0 kq a2 x9_2 l1_1 (l1_1.length : Int) x42_2 = some r) ∧ Aside0 (kq ≤ kj4) ∧ Aside0 (Kd.R Kd.bool 4 w' w.heap.size (fun _ => True) v290 x9_2) ∧ Aside0 (w'.heap[gb285]? = some (.cells #[.int .i64 a0_0, (.slice A0_1 l0_1.length c0_1)] 24 (0, 0))) ∧ Aside0 (w'.heap[gb286]? = some (.cells #[.int .i64 a1_0, (.slice A1_1 l1_1.length c1_1)] 28 (0, 0))) ∧ Aside0 (Below w.heap.size w w'))
    case atStart => exact ⟨(y289), (0), (by first | rfl | (simp [*]; done)), H', ⟨Nat.le_refl _⟩, ⟨rx HO291.out⟩, ⟨bx BK285.out⟩, ⟨bx BK286.out⟩, ⟨lb⟩⟩
    case round =>
     clear H'; obtain ⟨x9_2, x42_2, rfl, HA, HK2, HO_9, BK285, BK286, HB⟩ := hrel
     cases gk with
     | zero => exact absurd HA.out (by simp [euler_Covers.l0])
     | succ k2 =>
      have H := HA.out; clear HA
      simp only [euler_Covers.l0] at H
      by_cases c27 : x42_2 < (l1_1.length : Int)
      ·
       rw [if_pos c27] at H; have c27b0 := decide_eq_true c27; clear c27; replace H := ifd H; obtain ⟨c28b0, H⟩ := H; replace H := ifd H; obtain ⟨c29b0, H⟩ := H; replace H := ifd H; obtain ⟨c30b0, H⟩ := H; replace H := ifd H; obtain ⟨c31b0, H⟩ := H; obtain ⟨bq32, hbq32⟩ : ∃ b_ : Bool, b_ = (rdOf false x9_2 ((rd_T51 l1_1 x42_2).f0)) := ⟨_, rfl⟩; replace H : (if bq32 = true then (some false) else (if a2 = true then (if (rd_T51 l1_1 x42_2).f1 = true then (some false) else (euler_Covers.l0 k2 a2 (x9_2.set (((rd_T51 l1_1 x42_2).f0) : Int).toNat true) l1_1 (l1_1.length : Int) (wrap64 (x42_2 + 1)))) else (euler_Covers.l0 k2 a2 (x9_2.set (((rd_T51 l1_1 x42_2).f0) : Int).toNat true) l1_1 (l1_1.length : Int) (wrap64 (x42_2 + 1))))) = some r := by rw [← hbq32] at H; exact H
       have Nbq32 := ak hbq32; clear hbq32
       by_cases c33 : bq32 = true
       ·
        subst c33
        have H1 : (some false) = some r := by rw [if_pos rfl] at H; exact H
        clear H; have H := H1; clear H1; obtain rfl := Option.some.inj H; have p292 : 0 ≤ (x42_2 : Int) := oda; have q292 : x42_2 < (l1_1.length : Int) := oda; obtain ⟨ad292, e292, hx292_0, hx292_1⟩ := at_T51 HR1_1.out x42_2 p292 q292
        (try rw [← Nbq32.out] at hx292_1)
        cases e292
        (try replace hx292_0 := hbc HB hx292_0)
        (try replace hx292_1 := hbc HB hx292_1)
        replace p292 := eq_true p292; replace q292 := eq_true q292
        go_wp2_with (first | ((with_reducible refine gate_dst (N := 11) rfl ?_); (try (refine gate_guard (by rfl) ?_; dsimp only)); refine box_event ?hg (N := 11) ?hd (cs := #[.int .i64 0, .bool false]) (t := 51) ?hr ?_; (case hd => rfl); (case hg => rfl); (case hr => first | (go_simp; done) | (go_simp; rfl)); intro gb293 hg w34 hbox hb; have n_ := a11 (Kd.R_below (rx HO_9.out) hb) (blk_below (bx BK285.out) hb) (blk_below (bx BK286.out) hb) (below_step lb hb) hbox (gw w hg) (gw w hg) (nl hg BK285) (nr hg BK285) (nl hg BK286) (nr hg BK286); clear HO_9 BK285 BK286 HB; obtain ⟨HO_9, BK285, BK286, HB, BK293, GW293, GE293, NB285_293, NB293_285, NB286_293, NB293_286⟩ := n_; clear hb hbox hg; have hnb35 := NB293_285.out; have hnc35 := NB285_293.out; have hnb36 := NB293_286.out; have hnc36 := NB286_293.out; have hcz37_0 := bc0 BK293; have hcz37_1 := bc1 BK293; have hfz37_0 := bf BK293 0; have hfz37_1 := bf BK293 1; obtain ⟨Ao38, co38, eo38⟩ := Kd.R_slice HO_9.out; subst eo38; have p294 : 0 ≤ (((rd_T51 l1_1 x42_2).f0) : Int) := oda; have q294 : ((rd_T51 l1_1 x42_2).f0) < (x9_2.length : Int) := oda; obtain ⟨ad294, e294, hx294_0⟩ := Kd.at_bool (Kd.R_reads' HO_9.out).2.2 ((rd_T51 l1_1 x42_2).f0) p294 q294; (try rw [← Nbq32.out] at hx294_0); cases e294; have hn294_0 : ad294.block ≠ gb293 := Kd.own_blk (Kd.R_ne HO_9.out BK293.out (by decide)); have hn294_1 : ad294.block ≠ gb293 := Kd.own_blk (Kd.R_ne HO_9.out BK293.out (by decide)); replace hx294_0 := (cell_far (p := ⟨gb293, 0, none⟩) (by first | (rw [add_block]; exact hn294_0) | (show (Addr.add _ _).block ≠ _; rw [add_block]; exact hn294_0) | exact hn294_0) (.int .i64 ((rd_T51 l1_1 x42_2).f0))).trans hx294_0; replace hx294_0 := (cell_far (p := ⟨gb293, 1, none⟩) (by first | (rw [add_block]; exact hn294_1) | (show (Addr.add _ _).block ≠ _; rw [add_block]; exact hn294_1) | exact hn294_1) (.bool ((rd_T51 l1_1 x42_2).f1))).trans hx294_0; clear hn294_0; clear hn294_1; replace p294 := eq_true p294; replace q294 := eq_true q294))
        go_ret
        exact ⟨by first | rfl | (simp [errW_none, errW_some] <;> rfl) | (simp [*, errW_none, errW_some] <;> rfl), lb⟩
       ·
        replace c33 := Bool.eq_false_iff.mpr c33; subst c33
        have H1 : (if a2 = true then (if (rd_T51 l1_1 x42_2).f1 = true then (some false) else (euler_Covers.l0 k2 a2 (x9_2.set (((rd_T51 l1_1 x42_2).f0) : Int).toNat true) l1_1 (l1_1.length : Int) (wrap64 (x42_2 + 1)))) else (euler_Covers.l0 k2 a2 (x9_2.set (((rd_T51 l1_1 x42_2).f0) : Int).toNat true) l1_1 (l1_1.length : Int) (wrap64 (x42_2 + 1)))) = some r := by rw [if_neg (show ¬ (false = true) by decide)] at H; exact H
        clear H; have H := H1; clear H1
        by_cases c39 : a2 = true
        ·
         subst c39
         have H1 : (if (rd_T51 l1_1 x42_2).f1 = true then (some false) else (euler_Covers.l0 k2 true (x9_2.set (((rd_T51 l1_1 x42_2).f0) : Int).toNat true) l1_1 (l1_1.length : Int) (wrap64 (x42_2 + 1)))) = some r := by rw [if_pos rfl] at H; exact H
         clear H; have H := H1; clear H1; obtain ⟨bq40, hbq40⟩ : ∃ b_ : Bool, b_ = ((rd_T51 l1_1 x42_2).f1) := ⟨_, rfl⟩; replace H : (if bq40 = true then (some false) else (euler_Covers.l0 k2 true (x9_2.set (((rd_T51 l1_1 x42_2).f0) : Int).toNat true) l1_1 (l1_1.length : Int) (wrap64 (x42_2 + 1)))) = some r := by rw [← hbq40] at H; exact H
         have Nbq40 := ak hbq40; clear hbq40
         by_cases c41 : bq40 = true
         ·
          subst c41
          have H1 : (some false) = some r := by rw [if_pos rfl] at H; exact H
          clear H; have H := H1; clear H1; obtain rfl := Option.some.inj H; have p292 : 0 ≤ (x42_2 : Int) := oda; have q292 : x42_2 < (l1_1.length : Int) := oda; obtain ⟨ad292, e292, hx292_0, hx292_1⟩ := at_T51 HR1_1.out x42_2 p292 q292
          (try rw [← Nbq32.out] at hx292_1)
          (try rw [← Nbq40.out] at hx292_1)
          cases e292
          (try replace hx292_0 := hbc HB hx292_0)
          (try replace hx292_1 := hbc HB hx292_1)
          replace p292 := eq_true p292; replace q292 := eq_true q292
          go_wp2_with (first | ((with_reducible refine gate_dst (N := 11) rfl ?_); (try (refine gate_guard (by rfl) ?_; dsimp only)); refine box_event ?hg (N := 11) ?hd (cs := #[.int .i64 0, .bool false]) (t := 51) ?hr ?_; (case hd => rfl); (case hg => rfl); (case hr => first | (go_simp; done) | (go_simp; rfl)); intro gb293 hg w42 hbox hb; have n_ := a11 (Kd.R_below (rx HO_9.out) hb) (blk_below (bx BK285.out) hb) (blk_below (bx BK286.out) hb) (below_step lb hb) hbox (gw w hg) (gw w hg) (nl hg BK285) (nr hg BK285) (nl hg BK286) (nr hg BK286); clear HO_9 BK285 BK286 HB; obtain ⟨HO_9, BK285, BK286, HB, BK293, GW293, GE293, NB285_293, NB293_285, NB286_293, NB293_286⟩ := n_; clear hb hbox hg; have hnb43 := NB293_285.out; have hnc43 := NB285_293.out; have hnb44 := NB293_286.out; have hnc44 := NB286_293.out; have hcz45_0 := bc0 BK293; have hcz45_1 := bc1 BK293; have hfz45_0 := bf BK293 0; have hfz45_1 := bf BK293 1; obtain ⟨Ao46, co46, eo46⟩ := Kd.R_slice HO_9.out; subst eo46; have p294 : 0 ≤ (((rd_T51 l1_1 x42_2).f0) : Int) := oda; have q294 : ((rd_T51 l1_1 x42_2).f0) < (x9_2.length : Int) := oda; obtain ⟨ad294, e294, hx294_0⟩ := Kd.at_bool (Kd.R_reads' HO_9.out).2.2 ((rd_T51 l1_1 x42_2).f0) p294 q294; (try rw [← Nbq32.out] at hx294_0); (try rw [← Nbq40.out] at hx294_0); cases e294; have hn294_0 : ad294.block ≠ gb293 := Kd.own_blk (Kd.R_ne HO_9.out BK293.out (by decide)); have hn294_1 : ad294.block ≠ gb293 := Kd.own_blk (Kd.R_ne HO_9.out BK293.out (by decide)); replace hx294_0 := (cell_far (p := ⟨gb293, 0, none⟩) (by first | (rw [add_block]; exact hn294_0) | (show (Addr.add _ _).block ≠ _; rw [add_block]; exact hn294_0) | exact hn294_0) (.int .i64 ((rd_T51 l1_1 x42_2).f0))).trans hx294_0; replace hx294_0 := (cell_far (p := ⟨gb293, 1, none⟩) (by first | (rw [add_block]; exact hn294_1) | (show (Addr.add _ _).block ≠ _; rw [add_block]; exact hn294_1) | exact hn294_1) (.bool true)).trans hx294_0; clear hn294_0; clear hn294_1; replace p294 := eq_true p294; replace q294 := eq_true q294))
          go_ret
          exact ⟨by first | rfl | (simp [errW_none, errW_some] <;> rfl) | (simp [*, errW_none, errW_some] <;> rfl), lb⟩
         ·
          replace c41 := Bool.eq_false_iff.mpr c41; subst c41
          have H1 : (euler_Covers.l0 k2 true (x9_2.set (((rd_T51 l1_1 x42_2).f0) : Int).toNat true) l1_1 (l1_1.length : Int) (wrap64 (x42_2 + 1))) = some r := by rw [if_neg (show ¬ (false = true) by decide)] at H; exact H
          clear H; have H := H1; clear H1; obtain ⟨y295, hy295⟩ : ∃ y_ : List Bool, y_ = (x9_2.set (((rd_T51 l1_1 x42_2).f0) : Int).toNat true) := ⟨_, rfl⟩; rw [← hy295] at H; have Ny295 := ak hy295; clear hy295; have H' := ak H; clear H; have p292 : 0 ≤ (x42_2 : Int) := oda; have q292 : x42_2 < (l1_1.length : Int) := oda; obtain ⟨ad292, e292, hx292_0, hx292_1⟩ := at_T51 HR1_1.out x42_2 p292 q292
          (try rw [← Nbq32.out] at hx292_1)
          (try rw [← Nbq40.out] at hx292_1)
          cases e292
          (try replace hx292_0 := hbc HB hx292_0)
          (try replace hx292_1 := hbc HB hx292_1)
          replace p292 := eq_true p292; replace q292 := eq_true q292
          go_wp2_with (first | ((with_reducible refine gate_dst (N := 11) rfl ?_); (try (refine gate_guard (by rfl) ?_; dsimp only)); refine box_event ?hg (N := 11) ?hd (cs := #[.int .i64 0, .bool false]) (t := 51) ?hr ?_; (case hd => rfl); (case hg => rfl); (case hr => first | (go_simp; done) | (go_simp; rfl)); intro gb293 hg w48 hbox hb; have n_ := a11 (Kd.R_below (rx HO_9.out) hb) (blk_below (bx BK285.out) hb) (blk_below (bx BK286.out) hb) (below_step lb hb) hbox (gw w hg) (gw w hg) (nl hg BK285) (nr hg BK285) (nl hg BK286) (nr hg BK286); clear HO_9 BK285 BK286 HB; obtain ⟨HO_9, BK285, BK286, HB, BK293, GW293, GE293, NB285_293, NB293_285, NB286_293, NB293_286⟩ := n_; clear hb hbox hg; have hnb49 := NB293_285.out; have hnc49 := NB285_293.out; have hnb50 := NB293_286.out; have hnc50 := NB286_293.out; have hcz51_0 := bc0 BK293; have hcz51_1 := bc1 BK293; have hfz51_0 := bf BK293 0; have hfz51_1 := bf BK293 1) | ((with_reducible refine gate_store (t := 51) (p := 11) rfl ?_); refine store_event (t := 51) (p := 11) (v := ?vo_w52) (w1 := ((w48.setCell ⟨gb293, 0, none⟩ (.int .i64 ((rd_T51 l1_1 x42_2).f0))).setCell ⟨gb293, 1, none⟩ (.bool false))) ?hg ?ho ?hn ?hr ?_; (case ho => rfl); (case hg => rfl); (case hn => rfl); (case hr => first | (go_simp; done) | (go_simp; rfl)); intro w52 hw; have n0_ : Aside0 (Kd.R Kd.bool 4 w52 w.heap.size (fun _ => True) v290 x9_2) := ⟨(by rw [hw]; exact (by exact rx (Kd.R_mono (Kd.R_far (p := ⟨gb293, 1, none⟩) (Kd.R_far (p := ⟨gb293, 0, none⟩) (Kd.R_types HO_9.out BK293.out (by decide)) (fun _ hk => hk.2) (.int .i64 ((rd_T51 l1_1 x42_2).f0))) (fun _ hk => hk.2) (.bool false)) (fun _ hk => trivial))))⟩; have n1_ : Aside0 (w52.heap[gb285]? = some (.cells #[.int .i64 a0_0, .slice A0_1 l0_1.length c0_1] 24 (0, 0))) := ⟨(by rw [hw]; exact (by (with_reducible repeat (first | refine blk_drewN ?_ _ | refine blk_drew ?_ | refine blk_alloc ?_ _)); refine blk_far ?_ NB285_293.out _; (with_reducible repeat (first | refine blk_drewN ?_ _ | refine blk_drew ?_ | refine blk_alloc ?_ _)); refine blk_far ?_ NB285_293.out _; exact bx BK285.out))⟩; have n2_ : Aside0 (w52.heap[gb286]? = some (.cells #[.int .i64 a1_0, .slice (some ad292) l1_1.length c1_1] 28 (0, 0))) := ⟨(by rw [hw]; exact (by (with_reducible repeat (first | refine blk_drewN ?_ _ | refine blk_drew ?_ | refine blk_alloc ?_ _)); refine blk_far ?_ NB286_293.out _; (with_reducible repeat (first | refine blk_drewN ?_ _ | refine blk_drew ?_ | refine blk_alloc ?_ _)); refine blk_far ?_ NB286_293.out _; exact bx BK286.out))⟩; have n3_ : Aside0 (w52.heap[gb293]? = some (.cells #[.int .i64 ((rd_T51 l1_1 x42_2).f0), .bool false] 51 (0, 0))) := ⟨(by rw [hw]; exact (by (with_reducible repeat (first | refine blk_drewN ?_ _ | refine blk_drew ?_ | refine blk_alloc ?_ _)); refine blk_put (cs := #[.int .i64 ((rd_T51 l1_1 x42_2).f0), .bool false]) ?_ 1 _ rfl; (with_reducible repeat (first | refine blk_drewN ?_ _ | refine blk_drew ?_ | refine blk_alloc ?_ _)); refine blk_put (cs := #[.int .i64 0, .bool false]) ?_ 0 _ rfl; exact bx BK293.out))⟩; have n4_ : Aside0 (Below w.heap.size w w52) := ⟨(by rw [hw]; exact lb)⟩; clear hw; clear HO_9; clear BK285; clear BK286; clear BK293; clear HB; have HO_9 := n0_; have BK285 := n1_; have BK286 := n2_; have BK293 := n3_; have HB := n4_; clear n0_ n1_ n2_ n3_ n4_; have hcz53_0 := bc0 BK293; have hcz53_1 := bc1 BK293; have hfz53_0 := bf BK293 0; have hfz53_1 := bf BK293 1; obtain ⟨Ao54, co54, eo54⟩ := Kd.R_slice HO_9.out; subst eo54; have p294 : 0 ≤ (((rd_T51 l1_1 x42_2).f0) : Int) := oda; have q294 : ((rd_T51 l1_1 x42_2).f0) < (x9_2.length : Int) := oda; obtain ⟨ad294, e294, hx294_0⟩ := Kd.at_bool (Kd.R_reads' HO_9.out).2.2 ((rd_T51 l1_1 x42_2).f0) p294 q294; (try rw [← Nbq32.out] at hx294_0); (try rw [← Nbq40.out] at hx294_0); cases e294; replace p294 := eq_true p294; replace q294 := eq_true q294; have p47 : 0 ≤ (((rd_T51 l1_1 x42_2).f0) : Int) := oda; have q47 : (((rd_T51 l1_1 x42_2).f0) : Int) < ((x9_2.length : Int) : Int) := oda; obtain ⟨go47, co47, eo47, gb47, gl47, cl47, HG47⟩ := Kd.R_form HO_9.out (by omega); (first | cases eo47 | (injection eo47 with ea_ en_ ec_; (first | subst ea_ | (injection ea_ with ea_; subst ea_)); subst ec_; clear en_)); have GB47 := ak gb47; have GG47 := ak HG47; clear gb47 gl47 HG47; (first | simp only [add_plain] at hx294_0 | skip); obtain ⟨hx47_0, hf47_0⟩ := Kd.R_celln false HO_9.out (((rd_T51 l1_1 x42_2).f0) : Int) p47 q47; replace p47 := eq_true p47; replace q47 := eq_true q47; obtain ⟨hy55_, hz55_⟩ := Kd.R_celln false HO_9.out (((rd_T51 l1_1 x42_2).f0) : Int) (oda) (oda); have HP55 := Kd.R_putg HO_9.out (((rd_T51 l1_1 x42_2).f0) : Int) true) | ((with_reducible refine gate_store (t := 4) (p := 61) rfl ?_); refine store_event (t := 4) (p := 61) (v := ?vo_w56) (w1 := (w52.setCell ⟨go47, (((rd_T51 l1_1 x42_2).f0) : Int).toNat, none⟩ (.bool true))) ?hg ?ho ?hn ?hr ?_; (case ho => rfl); (case hg => rfl); (case hn => rfl); (case hr => first | (go_simp; done) | (go_simp; rfl)); intro w56 hw; have hg : w52.grownBy w56 (some go47) := (by rw [hw]; exact HP55.2); have hp_ : Kd.R Kd.bool 4 w56 w.heap.size (fun _ => True) (.slice (some ⟨go47, 0, none⟩) x9_2.length co54) y295 := (by rw [hw, Ny295.out]; exact HP55.1); clear HP55; have n_ := a5 hp_ (blk_grown (bx BK285.out) hg (Kd.R_ne HO_9.out BK285.out (by decide))) (blk_grown (bx BK286.out) hg (Kd.R_ne HO_9.out BK286.out (by decide))) (blk_grown (bx BK293.out) hg (Kd.R_ne HO_9.out BK293.out (by decide))) (by rw [hw]; exact below_set (HB.out) GB47.out : Below w.heap.size w w56); clear HO_9 BK285 BK286 BK293 HB; obtain ⟨HO_9, BK285, BK286, BK293, HB⟩ := n_; clear hg hw hp_))
          go_roundg k2
          case measure => have := HJ4.out; have := HK2.out; omega
          case rel => exact ⟨(y295), (wrap64 (x42_2 + 1)), (by first | rfl | (simp [*]; done)), H', ⟨by have := HJ4.out; have := HK2.out; omega⟩, ⟨rx HO_9.out⟩, ⟨bx BK285.out⟩, ⟨bx BK286.out⟩, ⟨lb⟩⟩
        ·
         replace c39 := Bool.eq_false_iff.mpr c39; subst c39
         have H1 : (euler_Covers.l0 k2 false (x9_2.set (((rd_T51 l1_1 x42_2).f0) : Int).toNat true) l1_1 (l1_1.length : Int) (wrap64 (x42_2 + 1))) = some r := by rw [if_neg (show ¬ (false = true) by decide)] at H; exact H
         clear H; have H := H1; clear H1; obtain ⟨y296, hy296⟩ : ∃ y_ : List Bool, y_ = (x9_2.set (((rd_T51 l1_1 x42_2).f0) : Int).toNat true) := ⟨_, rfl⟩; rw [← hy296] at H; have Ny296 := ak hy296; clear hy296; have H' := ak H; clear H; have p292 : 0 ≤ (x42_2 : Int) := oda; have q292 : x42_2 < (l1_1.length : Int) := oda; obtain ⟨ad292, e292, hx292_0, hx292_1⟩ := at_T51 HR1_1.out x42_2 p292 q292
         (try rw [← Nbq32.out] at hx292_1)
         cases e292
         (try replace hx292_0 := hbc HB hx292_0)
         (try replace hx292_1 := hbc HB hx292_1)
         replace p292 := eq_true p292; replace q292 := eq_true q292
         go_wp2_with (first | ((with_reducible refine gate_dst (N := 11) rfl ?_); (try (refine gate_guard (by rfl) ?_; dsimp only)); refine box_event ?hg (N := 11) ?hd (cs := #[.int .i64 0, .bool false]) (t := 51) ?hr ?_; (case hd => rfl); (case hg => rfl); (case hr => first | (go_simp; done) | (go_simp; rfl)); intro gb293 hg w58 hbox hb; have n_ := a11 (Kd.R_below (rx HO_9.out) hb) (blk_below (bx BK285.out) hb) (blk_below (bx BK286.out) hb) (below_step lb hb) hbox (gw w hg) (gw w hg) (nl hg BK285) (nr hg BK285) (nl hg BK286) (nr hg BK286); clear HO_9 BK285 BK286 HB; obtain ⟨HO_9, BK285, BK286, HB, BK293, GW293, GE293, NB285_293, NB293_285, NB286_293, NB293_286⟩ := n_; clear hb hbox hg; have hnb59 := NB293_285.out; have hnc59 := NB285_293.out; have hnb60 := NB293_286.out; have hnc60 := NB286_293.out; have hcz61_0 := bc0 BK293; have hcz61_1 := bc1 BK293; have hfz61_0 := bf BK293 0; have hfz61_1 := bf BK293 1) | ((with_reducible refine gate_store (t := 51) (p := 11) rfl ?_); refine store_event (t := 51) (p := 11) (v := ?vo_w62) (w1 := ((w58.setCell ⟨gb293, 0, none⟩ (.int .i64 ((rd_T51 l1_1 x42_2).f0))).setCell ⟨gb293, 1, none⟩ (.bool ((rd_T51 l1_1 x42_2).f1)))) ?hg ?ho ?hn ?hr ?_; (case ho => rfl); (case hg => rfl); (case hn => rfl); (case hr => first | (go_simp; done) | (go_simp; rfl)); intro w62 hw; have n0_ : Aside0 (Kd.R Kd.bool 4 w62 w.heap.size (fun _ => True) v290 x9_2) := ⟨(by rw [hw]; exact (by exact rx (Kd.R_mono (Kd.R_far (p := ⟨gb293, 1, none⟩) (Kd.R_far (p := ⟨gb293, 0, none⟩) (Kd.R_types HO_9.out BK293.out (by decide)) (fun _ hk => hk.2) (.int .i64 ((rd_T51 l1_1 x42_2).f0))) (fun _ hk => hk.2) (.bool ((rd_T51 l1_1 x42_2).f1))) (fun _ hk => trivial))))⟩; have n1_ : Aside0 (w62.heap[gb285]? = some (.cells #[.int .i64 a0_0, .slice A0_1 l0_1.length c0_1] 24 (0, 0))) := ⟨(by rw [hw]; exact (by (with_reducible repeat (first | refine blk_drewN ?_ _ | refine blk_drew ?_ | refine blk_alloc ?_ _)); refine blk_far ?_ NB285_293.out _; (with_reducible repeat (first | refine blk_drewN ?_ _ | refine blk_drew ?_ | refine blk_alloc ?_ _)); refine blk_far ?_ NB285_293.out _; exact bx BK285.out))⟩; have n2_ : Aside0 (w62.heap[gb286]? = some (.cells #[.int .i64 a1_0, .slice (some ad292) l1_1.length c1_1] 28 (0, 0))) := ⟨(by rw [hw]; exact (by (with_reducible repeat (first | refine blk_drewN ?_ _ | refine blk_drew ?_ | refine blk_alloc ?_ _)); refine blk_far ?_ NB286_293.out _; (with_reducible repeat (first | refine blk_drewN ?_ _ | refine blk_drew ?_ | refine blk_alloc ?_ _)); refine blk_far ?_ NB286_293.out _; exact bx BK286.out))⟩; have n3_ : Aside0 (w62.heap[gb293]? = some (.cells #[.int .i64 ((rd_T51 l1_1 x42_2).f0), .bool ((rd_T51 l1_1 x42_2).f1)] 51 (0, 0))) := ⟨(by rw [hw]; exact (by (with_reducible repeat (first | refine blk_drewN ?_ _ | refine blk_drew ?_ | refine blk_alloc ?_ _)); refine blk_put (cs := #[.int .i64 ((rd_T51 l1_1 x42_2).f0), .bool false]) ?_ 1 _ rfl; (with_reducible repeat (first | refine blk_drewN ?_ _ | refine blk_drew ?_ | refine blk_alloc ?_ _)); refine blk_put (cs := #[.int .i64 0, .bool false]) ?_ 0 _ rfl; exact bx BK293.out))⟩; have n4_ : Aside0 (Below w.heap.size w w62) := ⟨(by rw [hw]; exact lb)⟩; clear hw; clear HO_9; clear BK285; clear BK286; clear BK293; clear HB; have HO_9 := n0_; have BK285 := n1_; have BK286 := n2_; have BK293 := n3_; have HB := n4_; clear n0_ n1_ n2_ n3_ n4_; have hcz63_0 := bc0 BK293; have hcz63_1 := bc1 BK293; have hfz63_0 := bf BK293 0; have hfz63_1 := bf BK293 1; obtain ⟨Ao64, co64, eo64⟩ := Kd.R_slice HO_9.out; subst eo64; have p294 : 0 ≤ (((rd_T51 l1_1 x42_2).f0) : Int) := oda; have q294 : ((rd_T51 l1_1 x42_2).f0) < (x9_2.length : Int) := oda; obtain ⟨ad294, e294, hx294_0⟩ := Kd.at_bool (Kd.R_reads' HO_9.out).2.2 ((rd_T51 l1_1 x42_2).f0) p294 q294; (try rw [← Nbq32.out] at hx294_0); cases e294; replace p294 := eq_true p294; replace q294 := eq_true q294; have p57 : 0 ≤ (((rd_T51 l1_1 x42_2).f0) : Int) := oda; have q57 : (((rd_T51 l1_1 x42_2).f0) : Int) < ((x9_2.length : Int) : Int) := oda; obtain ⟨go57, co57, eo57, gb57, gl57, cl57, HG57⟩ := Kd.R_form HO_9.out (by omega); (first | cases eo57 | (injection eo57 with ea_ en_ ec_; (first | subst ea_ | (injection ea_ with ea_; subst ea_)); subst ec_; clear en_)); have GB57 := ak gb57; have GG57 := ak HG57; clear gb57 gl57 HG57; (first | simp only [add_plain] at hx294_0 | skip); obtain ⟨hx57_0, hf57_0⟩ := Kd.R_celln false HO_9.out (((rd_T51 l1_1 x42_2).f0) : Int) p57 q57; replace p57 := eq_true p57; replace q57 := eq_true q57; obtain ⟨hy65_, hz65_⟩ := Kd.R_celln false HO_9.out (((rd_T51 l1_1 x42_2).f0) : Int) (oda) (oda); have HP65 := Kd.R_putg HO_9.out (((rd_T51 l1_1 x42_2).f0) : Int) true) | ((with_reducible refine gate_store (t := 4) (p := 61) rfl ?_); refine store_event (t := 4) (p := 61) (v := ?vo_w66) (w1 := (w62.setCell ⟨go57, (((rd_T51 l1_1 x42_2).f0) : Int).toNat, none⟩ (.bool true))) ?hg ?ho ?hn ?hr ?_; (case ho => rfl); (case hg => rfl); (case hn => rfl); (case hr => first | (go_simp; done) | (go_simp; rfl)); intro w66 hw; have hg : w62.grownBy w66 (some go57) := (by rw [hw]; exact HP65.2); have hp_ : Kd.R Kd.bool 4 w66 w.heap.size (fun _ => True) (.slice (some ⟨go57, 0, none⟩) x9_2.length co64) y296 := (by rw [hw, Ny296.out]; exact HP65.1); clear HP65; have n_ := a5 hp_ (blk_grown (bx BK285.out) hg (Kd.R_ne HO_9.out BK285.out (by decide))) (blk_grown (bx BK286.out) hg (Kd.R_ne HO_9.out BK286.out (by decide))) (blk_grown (bx BK293.out) hg (Kd.R_ne HO_9.out BK293.out (by decide))) (by rw [hw]; exact below_set (HB.out) GB57.out : Below w.heap.size w w66); clear HO_9 BK285 BK286 BK293 HB; obtain ⟨HO_9, BK285, BK286, BK293, HB⟩ := n_; clear hg hw hp_))
         go_roundg k2
         case measure => have := HJ4.out; have := HK2.out; omega
         case rel => exact ⟨(y296), (wrap64 (x42_2 + 1)), (by first | rfl | (simp [*]; done)), H', ⟨by have := HJ4.out; have := HK2.out; omega⟩, ⟨rx HO_9.out⟩, ⟨bx BK285.out⟩, ⟨bx BK286.out⟩, ⟨lb⟩⟩
      ·
       rw [if_neg c27] at H; have c27b0 : decide (x42_2 < (l1_1.length : Int)) = false := decide_eq_false c27; clear c27; obtain rfl := Option.some.inj H
       go_wp2
       go_ret
       exact ⟨by first | rfl | (simp [errW_none, errW_some] <;> rfl) | (simp [*, errW_none, errW_some] <;> rfl), lb⟩
end Go.Proofs.Ytplbkggdnonfbaa.Q
