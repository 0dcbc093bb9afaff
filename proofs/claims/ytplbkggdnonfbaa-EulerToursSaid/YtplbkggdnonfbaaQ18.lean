import Derived.Test.YtplbkggdnonfbaaQ0
import Derived.Test.YtplbkggdnonfbaaQ15
namespace Go.Proofs.Ytplbkggdnonfbaa.Q
open Go.RowKit Go.Proofs.YtplbkggdnonfbaaW.PrintWords Go.Proofs.YtplbkggdnonfbaaW.PrintLast Go.Proofs.YtplbkggdnonfbaaW.PrintMore
attribute [local go_sem] max2_int min2_int max_two min_two max_three min_three max_four min_four   -- for this text's walks alone
set_option linter.unusedVariables false
set_option linter.unusedSimpArgs false

/-! ### compassref09_First: function 24 -/
def compassref09_First.l0 : Nat → Int → Int → List (S45) → Option (Int)
  | 0, _, _, _ => none
  | k + 1, x3, x345000, x345001 => if x3 < x345000 then ((compassref09_Degrees.f k x345000 x345001 x3).bind fun bt345 => (if (wrap64 (bt345.1 + bt345.2)) > 0 then (some x3) else (compassref09_First.l0 k (wrap64 (x3 + 1)) x345000 x345001))) else (some 0)
def compassref09_First.f (k : Nat) (a0_0 : Int) (l0_1 : List (S45)) : Option (Int) := compassref09_First.l0 k 0 a0_0 l0_1
theorem compassref09_First.mono_l : ∀ k, (∀ y0 y1 y2, LeO (compassref09_First.l0 k y0 y1 y2) (compassref09_First.l0 (k + 1) y0 y1 y2))
  | 0 => fun _ _ _ r h => by simp [compassref09_First.l0] at h
  | k + 1 => by
    have ih0 := compassref09_First.mono_l k
    · intro y0 y1 y2
      unfold compassref09_First.l0
      repeat' first
      | (with_reducible exact ih0 _ _ _)
      | (with_reducible exact compassref09_Degrees.mono _ _ _ _)
      | (with_reducible exact LeO.refl _)
      | (with_reducible exact LeO.none _)
      | (with_reducible refine LeO.ite ?_ ?_)
      | (with_reducible refine LeO.bind ?_ (fun _ => ?_))
      | exact ih0 _ _ _
      | exact compassref09_Degrees.mono _ _ _ _
      | exact LeO.none _
      | refine LeO.ite ?_ ?_
      | refine LeO.bind ?_ (fun _ => ?_)
theorem compassref09_First.mono : ∀ a0 a1 k, LeO (compassref09_First.f k a0 a1) (compassref09_First.f (k + 1) a0 a1) := by
  intro a0 a1 k
  have ih0 := compassref09_First.mono_l k
  unfold compassref09_First.f
  repeat' first
      | (with_reducible exact ih0 _ _ _)
      | (with_reducible exact compassref09_Degrees.mono _ _ _ _)
      | (with_reducible exact LeO.refl _)
      | (with_reducible exact LeO.none _)
      | (with_reducible refine LeO.ite ?_ ?_)
      | (with_reducible refine LeO.bind ?_ (fun _ => ?_))
      | exact ih0 _ _ _
      | exact compassref09_Degrees.mono _ _ _ _
      | exact LeO.none _
      | refine LeO.ite ?_ ?_
      | refine LeO.bind ?_ (fun _ => ?_)
set_option maxHeartbeats 8000000 in
set_option maxRecDepth 100000 in
theorem compassref09_First.calls (k : Nat) (a0_0 : Int) (A0_1 : Option Addr) (c0_1 : Nat) (l0_1 : List (S45)) (r : Int) (w : World) (hr0_1 : Kd.C k45 w A0_1 l0_1.length l0_1) (hc0_1 : l0_1.length ≤ c0_1) (h : compassref09_First.f k a0_0 l0_1 = some r) :
    Calls Try.prog 24 #[.agg #[.int .i64 a0_0, .slice A0_1 l0_1.length c0_1]] w fun e w' => e = .returned (.int .i64 r) ∧ Below w.heap.size w w' := by
 have hu24 := Try.underlying24; have HR0_1 := ak hr0_1; have HC0_1 := ak hc0_1; clear hr0_1 hc0_1; have HB := ak (Below.refl w.heap.size w); have H : (compassref09_First.l0 k 0 a0_0 l0_1) = some r := h; clear h; have H' := ak H; clear H
 go_enter Try.func24, Try.ntmps24
 go_wp2_with (first | ((with_reducible refine gate_dst (N := 1) rfl ?_); refine box_event ?hg (N := 1) ?hd (cs := #[.int .i64 a0_0, .slice A0_1 l0_1.length c0_1]) (t := 24) ?hr ?_; (case hd => rfl); (case hg => rfl); (case hr => first | (go_simp; done) | (go_simp; rfl)); intro gb344 hg w2 hbox hb; have n_ := a4 (below_step lb hb) hbox (gw w hg) (gw w hg); clear HB; obtain ⟨HB, BK344, GW344, GE344⟩ := n_; clear hb hbox hg))
 go_loopg [3] k (fun kq v3 w' => ∃ (x3_1 : Int), v3 = .int .i64 x3_1 ∧ Aside0 (compassref09_First.l0 kq x3_1 a0_0 l0_1 = some r) ∧ Aside0 (kq ≤ k) ∧ Aside0 (w'.heap[gb344]? = some (.cells #[.int .i64 a0_0, (.slice A0_1 l0_1.length c0_1)] 24 (0, 0))) ∧ Aside0 (Below w.heap.size w w'))
 case atStart => exact ⟨(0), (by first | rfl | (simp [*]; done)), H', ⟨Nat.le_refl _⟩, ⟨bx BK344.out⟩, ⟨lb⟩⟩
 case round =>
  clear H'; obtain ⟨x3_1, rfl, HA, HK1, BK344, HB⟩ := hrel
  cases gk with
  | zero => exact absurd HA.out (by simp [compassref09_First.l0])
  | succ k1 =>
   have H := HA.out; clear HA
   simp only [compassref09_First.l0] at H
   by_cases c3 : x3_1 < a0_0
   ·
    rw [if_pos c3] at H; have c3b0 := decide_eq_true c3; clear c3; replace H := Option.bind_eq_some_iff.mp H; obtain ⟨⟨t345, t346⟩, A40, H⟩ := H; replace H : (if (wrap64 (t345 + t346)) > 0 then (some x3_1) else (compassref09_First.l0 k1 (wrap64 (x3_1 + 1)) a0_0 l0_1)) = some r := H; have A4 := ak A40; clear A40
    by_cases c5 : (wrap64 (t345 + t346)) > 0
    ·
     rw [if_pos c5] at H; have c5b0 := decide_eq_true c5; clear c5; obtain rfl := Option.some.inj H; have hcz6_0 := bc0 BK344; have hcz6_1 := bc1 BK344; have hfz6_0 := bf BK344 0; have hfz6_1 := bf BK344 1
     go_wp2_with (first | ((with_reducible refine gate_callee (f := 16) rfl ?_); refine goesZ (some 15) rfl rfl Try.func16 (by kernel_rfl) rfl #[.agg #[.int .i64 a0_0, .slice A0_1 l0_1.length c0_1], .int .i64 x3_1] rfl ?_; (with_reducible refine (compassref09_Degrees.calls k1 a0_0 _ _ l0_1 x3_1 t345 t346 _ ?side1 ?side2 A4.out).mono ?_); (case side1 => exact Kd.C_below HR0_1.out lb); (case side2 => exact HC0_1.out); rintro e w7 ⟨rfl, hb⟩; refine ⟨_, rfl, ?_⟩; have n_ := a2 (blk_below (bx BK344.out) hb) (below_step lb hb); clear BK344 HB; obtain ⟨BK344, HB⟩ := n_; (try clear hb); (try clear hb2); (try clear hk); (try clear hi)))
     go_ret
     exact ⟨by first | rfl | (simp [errW_none, errW_some] <;> rfl) | (simp [*, errW_none, errW_some] <;> rfl), lb⟩
    ·
     rw [if_neg c5] at H; have c5b0 : decide (0 < (wrap64 (t345 + t346))) = false := decide_eq_false c5; clear c5; have H' := ak H; clear H; have hcz8_0 := bc0 BK344; have hcz8_1 := bc1 BK344; have hfz8_0 := bf BK344 0; have hfz8_1 := bf BK344 1
     go_wp2_with (first | ((with_reducible refine gate_callee (f := 16) rfl ?_); refine goesZ (some 15) rfl rfl Try.func16 (by kernel_rfl) rfl #[.agg #[.int .i64 a0_0, .slice A0_1 l0_1.length c0_1], .int .i64 x3_1] rfl ?_; (with_reducible refine (compassref09_Degrees.calls k1 a0_0 _ _ l0_1 x3_1 t345 t346 _ ?side1 ?side2 A4.out).mono ?_); (case side1 => exact Kd.C_below HR0_1.out lb); (case side2 => exact HC0_1.out); rintro e w9 ⟨rfl, hb⟩; refine ⟨_, rfl, ?_⟩; have n_ := a2 (blk_below (bx BK344.out) hb) (below_step lb hb); clear BK344 HB; obtain ⟨BK344, HB⟩ := n_; (try clear hb); (try clear hb2); (try clear hk); (try clear hi)))
     go_roundg k1
     case measure => have := HK1.out; omega
     case rel => exact ⟨(wrap64 (x3_1 + 1)), (by first | rfl | (simp [*]; done)), H', ⟨by have := HK1.out; omega⟩, ⟨bx BK344.out⟩, ⟨lb⟩⟩
   ·
    rw [if_neg c3] at H; have c3b0 : decide (x3_1 < a0_0) = false := decide_eq_false c3; clear c3; obtain rfl := Option.some.inj H; have hcz10_0 := bc0 BK344; have hcz10_1 := bc1 BK344; have hfz10_0 := bf BK344 0; have hfz10_1 := bf BK344 1
    go_wp2
    go_ret
    exact ⟨by first | rfl | (simp [errW_none, errW_some] <;> rfl) | (simp [*, errW_none, errW_some] <;> rfl), lb⟩

/-! ### compassref04_Numbered: function 34 -/
def compassref04_Numbered.l0 : Nat → List Int → List Int → Int → Int → Option (List Int)
  | 0, _, _, _, _ => none
  | k + 1, x0, x3, x4, x5 => if x5 < (x0.length : Int) then (if 0 ≤ x5 then (if (rd x0 x5) = x5 then (if x5 < (x3.length : Int) then (compassref04_Numbered.l0 k x0 (x3.set (x5 : Int).toNat x4) (wrap64 (x4 + 1)) (wrap64 (x5 + 1))) else (none)) else (if 0 ≤ (rd x0 x5) then (if (rd x0 x5) < (x3.length : Int) then (if x5 < (x3.length : Int) then (compassref04_Numbered.l0 k x0 (x3.set (x5 : Int).toNat (rd x3 (rd x0 x5))) x4 (wrap64 (x5 + 1))) else (none)) else (none)) else (none))) else (none)) else (some x3)
def compassref04_Numbered.f (k : Nat) (l0 : List Int) : Option (List Int) := if 0 ≤ (l0.length : Int) then (if ((l0.length : Int) : Int).toNat ≤ 35184372088832 then (compassref04_Numbered.l0 k l0 (List.replicate ((l0.length : Int) : Int).toNat 0) 0 0) else (none)) else (none)
theorem compassref04_Numbered.mono_l : ∀ k, (∀ y0 y1 y2 y3, LeO (compassref04_Numbered.l0 k y0 y1 y2 y3) (compassref04_Numbered.l0 (k + 1) y0 y1 y2 y3))
  | 0 => fun _ _ _ _ r h => by simp [compassref04_Numbered.l0] at h
  | k + 1 => by
    have ih0 := compassref04_Numbered.mono_l k
    · intro y0 y1 y2 y3
      unfold compassref04_Numbered.l0
      repeat' first
      | (with_reducible exact ih0 _ _ _ _)
      | (with_reducible exact LeO.refl _)
      | (with_reducible exact LeO.none _)
      | (with_reducible refine LeO.ite ?_ ?_)
      | (with_reducible refine LeO.bind ?_ (fun _ => ?_))
      | exact ih0 _ _ _ _
      | exact LeO.none _
      | refine LeO.ite ?_ ?_
      | refine LeO.bind ?_ (fun _ => ?_)
theorem compassref04_Numbered.mono : ∀ a0 k, LeO (compassref04_Numbered.f k a0) (compassref04_Numbered.f (k + 1) a0) := by
  intro a0 k; have ih0 := compassref04_Numbered.mono_l k
  unfold compassref04_Numbered.f
  repeat' first
      | (with_reducible exact ih0 _ _ _ _)
      | (with_reducible exact LeO.refl _)
      | (with_reducible exact LeO.none _)
      | (with_reducible refine LeO.ite ?_ ?_)
      | (with_reducible refine LeO.bind ?_ (fun _ => ?_))
      | exact ih0 _ _ _ _
      | exact LeO.none _
      | refine LeO.ite ?_ ?_
      | refine LeO.bind ?_ (fun _ => ?_)
set_option maxHeartbeats 8000000 in
set_option maxRecDepth 100000 in
theorem compassref04_Numbered.calls (k : Nat) (A0 : Option Addr) (c0 : Nat) (l0 : List Int) (r : List Int) (w : World) (hr0 : Kd.C (Kd.int .i64) w A0 l0.length l0) (hc0 : l0.length ≤ c0) (h : compassref04_Numbered.f k l0 = some r) :
    Calls Try.prog 34 #[.slice A0 l0.length c0] w fun e w' => ∃ v0_ : Value, e = .returned (v0_) ∧ Kd.R (Kd.int .i64) 3 w' w.heap.size (fun _ => True) v0_ r ∧ Below w.heap.size w w' := by
 have HR0 := ak hr0; have HC0 := ak hc0; clear hr0 hc0; have HB := ak (Below.refl w.heap.size w); have H : (if 0 ≤ (l0.length : Int) then (if ((l0.length : Int) : Int).toNat ≤ 35184372088832 then (compassref04_Numbered.l0 k l0 (List.replicate ((l0.length : Int) : Int).toNat 0) 0 0) else (none)) else (none)) = some r := h; clear h; replace H := ife H; obtain ⟨c2b0, c2b1, H⟩ := H; replace H := ife H; obtain ⟨c3b0, c3b1, H⟩ := H; obtain ⟨y347, hy347⟩ : ∃ y_ : List Int, y_ = (List.replicate ((l0.length : Int) : Int).toNat 0) := ⟨_, rfl⟩; rw [← hy347] at H; have Ny347 := ak hy347; clear hy347; have H' := ak H; clear H
 go_enter Try.func34, Try.ntmps34
 go_wp2_with (first | ((with_reducible refine gate_dst (N := 8) rfl ?_); refine Kd.R_make (Kd.int .i64) _ 3 rfl (N := 8) rfl 62 _ _ rfl (l0.length : Int) rfl rfl Try.underlying62 (.int .i64 0) 8 info3 rfl (by decide) (by omega) 0 (ok := fun _ => True) (okp := fun _ => True) rfl (fun _ hk => hk) trivial (oda) (Nat.le_trans (Nat.mul_le_mul_right _ (oda : (l0.length : Int).toNat ≤ 35184372088832)) (by omega)) (Below.refl _ _) (Nat.le_refl _) ?_; intro v348 w4 ho5 hb hg_ hnew_; clear hg_ hnew_; (first | rw [← Ny347.out] at ho5 | (simp only [Int.reduceToNat] at ho5; rw [← Ny347.out] at ho5)); have n_ := a2 (Kd.R_lower ho5 (below_size lb)) (below_step lb hb); clear HB; obtain ⟨HO349, HB⟩ := n_; clear hb ho5))
 go_loopg [4, 5] k (fun kq v4 v5 w' => ∃ (x3_1 : List Int) (x4_1 : Int) (x5_1 : Int), v4 = .int .i64 x4_1 ∧ v5 = .int .i64 x5_1 ∧ Aside0 (compassref04_Numbered.l0 kq l0 x3_1 x4_1 x5_1 = some r) ∧ Aside0 (kq ≤ k) ∧ Aside0 (Kd.R (Kd.int .i64) 3 w' w.heap.size (fun _ => True) v348 x3_1) ∧ Aside0 (Below w.heap.size w w'))
 case atStart => exact ⟨(y347), (0), (0), (by first | rfl | (simp [*]; done)), (by first | rfl | (simp [*]; done)), H', ⟨Nat.le_refl _⟩, ⟨rx HO349.out⟩, ⟨lb⟩⟩
 case round =>
  clear H'; obtain ⟨x3_1, x4_1, x5_1, rfl, rfl, HA, HK1, HO_3, HB⟩ := hrel
  cases gk with
  | zero => exact absurd HA.out (by simp [compassref04_Numbered.l0])
  | succ k1 =>
   have H := HA.out; clear HA
   simp only [compassref04_Numbered.l0] at H
   by_cases c6 : x5_1 < (l0.length : Int)
   ·
    rw [if_pos c6] at H; have c6b0 := decide_eq_true c6; clear c6; replace H := ifd H; obtain ⟨c7b0, H⟩ := H
    by_cases c8 : (rd l0 x5_1) = x5_1
    ·
     rw [if_pos c8] at H; have c8b0 : ((rd l0 x5_1) == x5_1) = true := beq_iff_eq.mpr c8; have c8b1 : ((rd l0 x5_1) != x5_1) = false := bne_eq_false_iff_eq.mpr c8; clear c8; replace H := ifd H; obtain ⟨c9b0, H⟩ := H; obtain ⟨y351, hy351⟩ : ∃ y_ : List Int, y_ = (x3_1.set (x5_1 : Int).toNat x4_1) := ⟨_, rfl⟩; rw [← hy351] at H; have Ny351 := ak hy351; clear hy351; have H' := ak H; clear H; have p350 : 0 ≤ (x5_1 : Int) := oda; have q350 : x5_1 < (l0.length : Int) := oda; obtain ⟨ad350, e350, hx350_0⟩ := Kd.at_int HR0.out x5_1 p350 q350; cases e350
     (try replace hx350_0 := hbc HB hx350_0)
     replace p350 := eq_true p350; replace q350 := eq_true q350; have p10 : 0 ≤ (x5_1 : Int) := oda; have q10 : (x5_1 : Int) < ((x3_1.length : Int) : Int) := oda
     obtain ⟨go10, co10, eo10, gb10, gl10, cl10, HG10⟩ := Kd.R_form HO_3.out (by omega)
     (first | cases eo10 | (injection eo10 with ea_ en_ ec_; (first | subst ea_ | (injection ea_ with ea_; subst ea_)); subst ec_; clear en_))
     have GB10 := ak gb10; have GG10 := ak HG10; clear gb10 gl10 HG10; obtain ⟨hx10_0, hf10_0⟩ := Kd.R_celln 0 HO_3.out (x5_1 : Int) p10 q10; replace p10 := eq_true p10; replace q10 := eq_true q10; have HP11 := Kd.R_putg HO_3.out (x5_1 : Int) x4_1
     go_wp2_with (first | ((with_reducible refine gate_store (t := 3) (p := 24) rfl ?_); refine store_event (t := 3) (p := 24) (v := ?vo_w12) (w1 := (wr.setCell ⟨go10, (x5_1 : Int).toNat, none⟩ (.int .i64 x4_1))) ?hg ?ho ?hn ?hr ?_; (case ho => rfl); (case hg => rfl); (case hn => rfl); (case hr => first | (go_simp; done) | (go_simp; rfl)); intro w12 hw; have hg : wr.grownBy w12 (some go10) := (by rw [hw]; exact HP11.2); have hp_ : Kd.R (Kd.int .i64) 3 w12 w.heap.size (fun _ => True) (.slice (some ⟨go10, 0, none⟩) x3_1.length co10) y351 := (by rw [hw, Ny351.out]; exact HP11.1); clear HP11; have n_ := a2 hp_ (by rw [hw]; exact below_set (HB.out) GB10.out : Below w.heap.size w w12); clear HO_3 HB; obtain ⟨HO_3, HB⟩ := n_; clear hg hw hp_))
     go_roundg k1
     case measure => have := HK1.out; omega
     case rel => exact ⟨(y351), (wrap64 (x4_1 + 1)), (wrap64 (x5_1 + 1)), (by first | rfl | (simp [*]; done)), (by first | rfl | (simp [*]; done)), H', ⟨by have := HK1.out; omega⟩, ⟨rx HO_3.out⟩, ⟨lb⟩⟩
    ·
     rw [if_neg c8] at H; have c8b0 : ((rd l0 x5_1) == x5_1) = false := beq_eq_false_iff_ne.mpr c8; have c8b1 : ((rd l0 x5_1) != x5_1) = true := bne_iff_ne.mpr c8; replace H := ifd H; obtain ⟨c13b0, H⟩ := H; replace H := ifd H; obtain ⟨c14b0, H⟩ := H; replace H := ifd H; obtain ⟨c15b0, H⟩ := H; obtain ⟨y354, hy354⟩ : ∃ y_ : List Int, y_ = (x3_1.set (x5_1 : Int).toNat (rd x3_1 (rd l0 x5_1))) := ⟨_, rfl⟩; rw [← hy354] at H; have Ny354 := ak hy354; clear hy354; have H' := ak H; clear H; have p350 : 0 ≤ (x5_1 : Int) := oda; have q350 : x5_1 < (l0.length : Int) := oda; obtain ⟨ad350, e350, hx350_0⟩ := Kd.at_int HR0.out x5_1 p350 q350; cases e350
     (try replace hx350_0 := hbc HB hx350_0)
     replace p350 := eq_true p350; replace q350 := eq_true q350; have p352 : 0 ≤ (x5_1 : Int) := oda; have q352 : x5_1 < (l0.length : Int) := oda; obtain ⟨ad352, e352, hx352_0⟩ := Kd.at_int HR0.out x5_1 p352 q352
     obtain rfl : ad350 = ad352 := (by injection e352)
     (try replace hx352_0 := hbc HB hx352_0)
     replace p352 := eq_true p352; replace q352 := eq_true q352; obtain ⟨Ao17, co17, eo17⟩ := Kd.R_slice HO_3.out; subst eo17; have p353 : 0 ≤ ((rd l0 x5_1) : Int) := oda; have q353 : (rd l0 x5_1) < (x3_1.length : Int) := oda; obtain ⟨ad353, e353, hx353_0⟩ := Kd.at_int (Kd.R_reads' HO_3.out).2.2 (rd l0 x5_1) p353 q353; cases e353; replace p353 := eq_true p353; replace q353 := eq_true q353; have p16 : 0 ≤ (x5_1 : Int) := oda; have q16 : (x5_1 : Int) < ((x3_1.length : Int) : Int) := oda
     obtain ⟨go16, co16, eo16, gb16, gl16, cl16, HG16⟩ := Kd.R_form HO_3.out (by omega)
     (first | cases eo16 | (injection eo16 with ea_ en_ ec_; (first | subst ea_ | (injection ea_ with ea_; subst ea_)); subst ec_; clear en_))
     have GB16 := ak gb16; have GG16 := ak HG16; clear gb16 gl16 HG16
     (first | simp only [add_plain] at hx353_0 | skip)
     obtain ⟨hx16_0, hf16_0⟩ := Kd.R_celln 0 HO_3.out (x5_1 : Int) p16 q16; replace p16 := eq_true p16; replace q16 := eq_true q16; have HP18 := Kd.R_putg HO_3.out (x5_1 : Int) (rd x3_1 (rd l0 x5_1))
     go_wp2_with (first | ((with_reducible refine gate_store (t := 3) (p := 36) rfl ?_); refine store_event (t := 3) (p := 36) (v := ?vo_w19) (w1 := (wr.setCell ⟨go16, (x5_1 : Int).toNat, none⟩ (.int .i64 (rd x3_1 (rd l0 x5_1))))) ?hg ?ho ?hn ?hr ?_; (case ho => rfl); (case hg => rfl); (case hn => rfl); (case hr => first | (go_simp; done) | (go_simp; rfl)); intro w19 hw; have hg : wr.grownBy w19 (some go16) := (by rw [hw]; exact HP18.2); have hp_ : Kd.R (Kd.int .i64) 3 w19 w.heap.size (fun _ => True) (.slice (some ⟨go16, 0, none⟩) x3_1.length co17) y354 := (by rw [hw, Ny354.out]; exact HP18.1); clear HP18; have n_ := a2 hp_ (by rw [hw]; exact below_set (HB.out) GB16.out : Below w.heap.size w w19); clear HO_3 HB; obtain ⟨HO_3, HB⟩ := n_; clear hg hw hp_))
     go_roundg k1
     case measure => have := HK1.out; omega
     case rel => exact ⟨(y354), (x4_1), (wrap64 (x5_1 + 1)), (by first | rfl | (simp [*]; done)), (by first | rfl | (simp [*]; done)), H', ⟨by have := HK1.out; omega⟩, ⟨rx HO_3.out⟩, ⟨lb⟩⟩
   ·
    rw [if_neg c6] at H; have c6b0 : decide (x5_1 < (l0.length : Int)) = false := decide_eq_false c6; clear c6; obtain rfl := Option.some.inj H
    go_wp2
    go_ret
    exact ⟨_, by first | rfl | (simp [errW_none, errW_some] <;> rfl) | (simp [*, errW_none, errW_some] <;> rfl), by exact rx HO_3.out, lb⟩
end Go.Proofs.Ytplbkggdnonfbaa.Q
