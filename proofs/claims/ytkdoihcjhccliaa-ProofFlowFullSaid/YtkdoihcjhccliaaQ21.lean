import Derived.Test.YtkdoihcjhccliaaQ0
import Derived.Test.YtkdoihcjhccliaaQ20
namespace Go.Proofs.Ytkdoihcjhccliaa.Q
open Go.RowKit Go.Proofs.YtkdoihcjhccliaaW.PrintWords Go.Proofs.YtkdoihcjhccliaaW.PrintLast Go.Proofs.YtkdoihcjhccliaaW.PrintMore
attribute [local go_sem] max2_int min2_int max_two min_two max_three min_three max_four min_four   -- for this text's walks alone
set_option linter.unusedVariables false
set_option linter.unusedSimpArgs false

/-! ### compassref11_Fits: function 30 -/
mutual
def compassref11_Fits.l0 : Nat → List Int → List Int → Int → Int → List (S98) → Option (Bool)
  | 0, _, _, _, _, _ => none
  | k + 1, x1, x2, x7, x319000, x319001 => if x7 < (x1.length : Int) then (if 0 ≤ x7 then (if (rd x1 x7) < 0 then (some false) else (if x7 < (x319001.length : Int) then (if (rd x1 x7) > ((rd_T98 x319001 x7).f2) then (some false) else (compassref11_Fits.l0 k x1 x2 (wrap64 (x7 + 1)) x319000 x319001)) else (none))) else (none)) else (compassref11_Fits.l1 k x1 x2 0 x319000 x319001)
def compassref11_Fits.l1 : Nat → List Int → List Int → Int → Int → List (S98) → Option (Bool)
  | 0, _, _, _, _, _ => none
  | k + 1, x1, x2, x8, x319000, x319001 => if x8 < x319000 then ((compassref11_Out.f k x319000 x319001 x1 x8).bind fun t322 => (if 0 ≤ x8 then (if x8 < (x2.length : Int) then (if t322 = (rd x2 x8) then (compassref11_Fits.l1 k x1 x2 (wrap64 (x8 + 1)) x319000 x319001) else (some false)) else (none)) else (none))) else (some true)
end
def compassref11_Fits.f (k : Nat) (a0_0 : Int) (l0_1 : List (S98)) (l1 : List Int) (l2 : List Int) : Option (Bool) := if (l1.length : Int) = (l0_1.length : Int) then (compassref11_Fits.l0 k l1 l2 0 a0_0 l0_1) else (some false)
def compassref11_Fits.T6 : Bool × List (List Nat × List Nat) := (true, [([], []), ([], []), ([0, 1], [0, 1]), ([2], [2]), ([3], [3]), ([4], [4]), ([5], [5]), ([5], [5]), ([6, 7, 5], [5, 6, 7]), ([8, 5], [5, 8]), ([5], [5]), ([10, 5], [5, 10]), ([5], [5]), ([11, 12, 5], [5, 11, 12]), ([13, 5], [5, 13]), ([14, 5], [5, 14]), ([9, 15, 5], [5, 9, 15]), ([5, 16], [5, 16])])
def compassref11_Fits.B6 : List Nat := [0, 0, 3, 7, 15, 31, 63, 63, 255, 511, 63, 1087, 63, 7231, 15423, 31807, 65535, 131071]
theorem compassref11_Fits.tab6 : rtab .any (opsOf Try.f30 6) = compassref11_Fits.T6 := by kernel_rfl
theorem compassref11_Fits.bits6 : waitsOk compassref11_Fits.T6.2 compassref11_Fits.B6 = true := by kernel_rfl
def compassref11_Fits.T11 : Bool × List (List Nat × List Nat) := (true, [([], []), ([], []), ([], []), ([0, 1, 2], [0, 1, 2]), ([], []), ([], []), ([4, 5], [4, 5]), ([6], [6]), ([3, 7], [3, 7])])
def compassref11_Fits.B11 : List Nat := [0, 0, 0, 7, 0, 0, 48, 112, 255]
theorem compassref11_Fits.tab11 : rtab .any (opsOf Try.f30 11) = compassref11_Fits.T11 := by kernel_rfl
theorem compassref11_Fits.bits11 : waitsOk compassref11_Fits.T11.2 compassref11_Fits.B11 = true := by kernel_rfl
set_option maxHeartbeats 8000000 in
set_option maxRecDepth 100000 in
theorem compassref11_Fits.calls (k : Nat) (a0_0 : Int) (A0_1 : Option Addr) (c0_1 : Nat) (l0_1 : List (S98)) (A1 : Option Addr) (c1 : Nat) (l1 : List Int) (A2 : Option Addr) (c2 : Nat) (l2 : List Int) (r : Bool) (w : World) (hr0_1 : Kd.C k98 w A0_1 l0_1.length l0_1) (hc0_1 : l0_1.length ≤ c0_1) (hr1 : Kd.C (Kd.int .i64) w A1 l1.length l1) (hc1 : l1.length ≤ c1) (hr2 : Kd.C (Kd.int .i64) w A2 l2.length l2) (hc2 : l2.length ≤ c2) (h : compassref11_Fits.f k a0_0 l0_1 l1 l2 = some r) :
    Calls Try.prog 30 #[.agg #[.int .i64 a0_0, .slice A0_1 l0_1.length c0_1], .slice A1 l1.length c1, .slice A2 l2.length c2] w fun e w' => e = .returned (.bool r) ∧ Below w.heap.size w w' := by
 have hu24 := Try.underlying24; have HR0_1 := ak hr0_1; have HC0_1 := ak hc0_1; clear hr0_1 hc0_1; have HR1 := ak hr1; have HC1 := ak hc1; clear hr1 hc1; have HR2 := ak hr2; have HC2 := ak hc2; clear hr2 hc2; have HB := ak (Below.refl w.heap.size w); have H : (if (l1.length : Int) = (l0_1.length : Int) then (compassref11_Fits.l0 k l1 l2 0 a0_0 l0_1) else (some false)) = some r := h; clear h
 by_cases c4 : (l1.length : Int) = (l0_1.length : Int)
 rotate_left
 ·
  rw [if_neg c4] at H; have c4b := bn2 c4; have c4b2 : (l1.length == l0_1.length) = false := by first | simpa using c4 | (simp at c4 ⊢; omega)
  obtain rfl := Option.some.inj H
  go_enter Try.func30, Try.ntmps30
  go_wp2_with (first | ((with_reducible refine gate_dst (N := 3) rfl ?_); refine bxe 3 #[.int .i64 a0_0, .slice A0_1 l0_1.length c0_1] 24 ?_; intro gb318 hg w27 hbox hb; have n_ := a4 (bl hb) hbox (gw w hg) (gw w hg); clear HB; obtain ⟨HB, BK318, GW318, GE318⟩ := n_; clear hb hbox hg; have ⟨_, _, _, _⟩ := cf2 BK318))
  go_ret
  exact ⟨er, lb⟩

 rw [if_pos c4] at H; have c4b := be2 c4; have c4b2 : (l1.length == l0_1.length) = true := by first | simpa using c4 | (simp at c4 ⊢; omega)
 clear c4; have H' := ak H; clear H
 go_enter Try.func30, Try.ntmps30
 go_wp2_with (first | ((with_reducible refine gate_dst (N := 3) rfl ?_); refine bxe 3 #[.int .i64 a0_0, .slice A0_1 l0_1.length c0_1] 24 ?_; intro gb318 hg w5 hbox hb; have n_ := a4 (bl hb) hbox (gw w hg) (gw w hg); clear HB; obtain ⟨HB, BK318, GW318, GE318⟩ := n_; clear hb hbox hg; have ⟨_, _, _, _⟩ := cf2 BK318))
 go_loopg [7] k (fun kq v7 w' => ∃ (x7_1 : Int), v7 = .int .i64 x7_1 ∧ Aside0 (compassref11_Fits.l0 kq l1 l2 x7_1 a0_0 l0_1 = some r) ∧ Aside0 (kq ≤ k) ∧ Aside0 (w'.heap[gb318]? = some (.cells #[.int .i64 a0_0, (.slice A0_1 l0_1.length c0_1)] 24 (0, 0))) ∧ Aside0 (Below w.heap.size w w'))
 case atStart => exact ⟨(0), sr, H', ⟨Nat.le_refl _⟩, xb BK318, ⟨lb⟩⟩
 clear H'; obtain ⟨x7_1, rfl, HA, HK1, BK318, HB⟩ := hrel
 cases gk with
 | zero => exact absurd HA.out (by simp [compassref11_Fits.l0])
 | succ k1 => ?_
 have H := HA.out; clear HA
 simp only [compassref11_Fits.l0] at H
 by_cases c7 : x7_1 < (l1.length : Int)
 ·
  rw [if_pos c7] at H; have c7b0 := decide_eq_true c7; clear c7; replace H := ifd H; obtain ⟨c8b0, H⟩ := H
  by_cases c9 : (rd l1 x7_1) < 0
  ·
   rw [if_pos c9] at H; have c9b0 := decide_eq_true c9; clear c9; obtain rfl := Option.some.inj H
   try go_wp2
   have n_ := a2 (blk_drew BK318.out) (below_drew1 HB.out); clear BK318 HB; obtain ⟨BK318, HB⟩ := n_; obtain ⟨p319, q319, ad319, e319, hx319_0⟩ := wq (Kd.at_int HR1.out x7_1); have hw319_0 := hx319_0; cases e319
   (try replace hx319_0 := hbc HB hx319_0)
   refine stC 18 [] (cY ((hbc HB hw319_0))) compassref11_Fits.tab6 compassref11_Fits.bits6 fun hHeld HT_ HW_ => ?_
   generalize wr.drew = w10 at BK318 HB hx319_0 hHeld ⊢
   refine pv HT_ 0 21 ?_; refine pv HT_ 1 22 ?_; refine pv HT_ 2 23 ?_; refine tv HT_ HW_ hHeld 3 24 ?_; refine pv HT_ 4 25 ?_; refine pv HT_ 5 26 ?_; refine pu HT_ 6 27 ?_; refine pu HT_ 7 28 ?_; refine pu HT_ 8 29 ?_; refine pu HT_ 9 30 ?_; refine pu HT_ 10 31 ?_; refine pu HT_ 11 32 ?_; refine pu HT_ 12 33 ?_; refine pu HT_ 13 34 ?_; refine pu HT_ 14 35 ?_; refine pu HT_ 15 36 ?_; refine pu HT_ 16 37 ?_; refine pv HT_ 17 38 ?_
   refine done_ (done_of HT_.out (by kernel_rfl)) ?_
   try go_wp2
   go_ret
   exact ⟨er, lb⟩
  rw [if_neg c9] at H; have c9b0 := decide_eq_false c9; clear c9; replace H := ifd H; obtain ⟨c11b0, H⟩ := H
  by_cases c12 : (rd l1 x7_1) > ((rd_T98 l0_1 x7_1).f2)
  ·
   rw [if_pos c12] at H; have c12b0 := decide_eq_true c12; clear c12; obtain rfl := Option.some.inj H
   try go_wp2
   have n_ := a2 (blk_drew BK318.out) (below_drew1 HB.out); clear BK318 HB; obtain ⟨BK318, HB⟩ := n_; obtain ⟨p319, q319, ad319, e319, hx319_0⟩ := wq (Kd.at_int HR1.out x7_1); have hw319_0 := hx319_0; cases e319
   (try replace hx319_0 := hbc HB hx319_0); obtain ⟨p320, q320, ad320, e320, hx320_0⟩ := wq (Kd.at_int HR1.out x7_1); have hw320_0 := hx320_0
   obtain rfl : ad319 = ad320 := (by injection e320)
   (try replace hx320_0 := hbc HB hx320_0); obtain ⟨p321, q321, ad321, e321, hx321_0, hx321_1, hx321_2, hx321_3⟩ := wq (at_T98 HR0_1.out x7_1); have hw321_3 := hx321_3; have hw321_2 := hx321_2; have hw321_1 := hx321_1; have hw321_0 := hx321_0; cases e321
   (try replace hx321_0 := hbc HB hx321_0)
   (try replace hx321_1 := hbc HB hx321_1)
   (try replace hx321_2 := hbc HB hx321_2)
   (try replace hx321_3 := hbc HB hx321_3)
   refine stC 18 [] (cX (bc0 BK318) (cX (bc1 BK318) (cX (hbc HB hw319_0) (cX (hbc HB hw320_0) (cX (hbc HB hw321_0) (cX (hbc HB hw321_1) (cX (hbc HB hw321_2) (cY (hbc HB hw321_3))))))))) compassref11_Fits.tab6 compassref11_Fits.bits6 fun hHeld HT_ HW_ => ?_
   generalize wr.drew = w13 at BK318 HB hx319_0 hx320_0 hx321_0 hx321_1 hx321_2 hx321_3 hHeld ⊢
   refine pv HT_ 0 21 ?_; refine pv HT_ 1 22 ?_; refine pv HT_ 2 23 ?_; refine tv HT_ HW_ hHeld 3 24 ?_; refine pv HT_ 4 25 ?_; refine pv HT_ 5 26 ?_; refine pv HT_ 6 27 ?_; refine pv HT_ 7 28 ?_; refine pv HT_ 8 29 ?_; refine pv HT_ 10 31 ?_; refine pv HT_ 12 33 ?_; refine tv HT_ HW_ hHeld 9 30 ?_; refine tv HT_ HW_ hHeld 11 32 ?_; refine pv HT_ 13 34 ?_; refine pv HT_ 14 35 ?_; refine tv HT_ HW_ hHeld 15 36 ?_; refine pv HT_ 16 37 ?_; refine pv HT_ 17 38 ?_
   refine done_ (done_of HT_.out (by kernel_rfl)) ?_
   try go_wp2
   go_ret
   exact ⟨er, lb⟩
  rw [if_neg c12] at H; have c12b0 := decide_eq_false c12; clear c12; have H' := ak H; clear H
  try go_wp2
  have n_ := a2 (blk_drew BK318.out) (below_drew1 HB.out); clear BK318 HB; obtain ⟨BK318, HB⟩ := n_; obtain ⟨p319, q319, ad319, e319, hx319_0⟩ := wq (Kd.at_int HR1.out x7_1); have hw319_0 := hx319_0; cases e319
  (try replace hx319_0 := hbc HB hx319_0); obtain ⟨p320, q320, ad320, e320, hx320_0⟩ := wq (Kd.at_int HR1.out x7_1); have hw320_0 := hx320_0
  obtain rfl : ad319 = ad320 := (by injection e320)
  (try replace hx320_0 := hbc HB hx320_0); obtain ⟨p321, q321, ad321, e321, hx321_0, hx321_1, hx321_2, hx321_3⟩ := wq (at_T98 HR0_1.out x7_1); have hw321_3 := hx321_3; have hw321_2 := hx321_2; have hw321_1 := hx321_1; have hw321_0 := hx321_0; cases e321
  (try replace hx321_0 := hbc HB hx321_0)
  (try replace hx321_1 := hbc HB hx321_1)
  (try replace hx321_2 := hbc HB hx321_2)
  (try replace hx321_3 := hbc HB hx321_3)
  refine stC 18 [] (cX (bc0 BK318) (cX (bc1 BK318) (cX (hbc HB hw319_0) (cX (hbc HB hw320_0) (cX (hbc HB hw321_0) (cX (hbc HB hw321_1) (cX (hbc HB hw321_2) (cY (hbc HB hw321_3))))))))) compassref11_Fits.tab6 compassref11_Fits.bits6 fun hHeld HT_ HW_ => ?_
  generalize wr.drew = w14 at BK318 HB hx319_0 hx320_0 hx321_0 hx321_1 hx321_2 hx321_3 hHeld ⊢
  refine pv HT_ 0 21 ?_; refine pv HT_ 1 22 ?_; refine pv HT_ 2 23 ?_; refine tv HT_ HW_ hHeld 3 24 ?_; refine pv HT_ 4 25 ?_; refine pv HT_ 5 26 ?_; refine pv HT_ 6 27 ?_; refine pv HT_ 7 28 ?_; refine pv HT_ 8 29 ?_; refine pv HT_ 10 31 ?_; refine pv HT_ 12 33 ?_; refine tv HT_ HW_ hHeld 9 30 ?_; refine tv HT_ HW_ hHeld 11 32 ?_; refine pv HT_ 13 34 ?_; refine pv HT_ 14 35 ?_; refine tv HT_ HW_ hHeld 15 36 ?_; refine pv HT_ 16 37 ?_; refine pv HT_ 17 38 ?_
  refine done_ (done_of HT_.out (by kernel_rfl)) ?_
  try go_wp2
  go_roundg k1
  case measure => have := HK1.out; omega
  case rel => exact ⟨(wrap64 (x7_1 + 1)), sr, H', ⟨by have := HK1.out; omega⟩, xb BK318, ⟨lb⟩⟩
 rw [if_neg c7] at H; have c7b0 := decide_eq_false c7; clear c7; have H' := ak H; clear H
 go_wp2
 go_loopg [8] k1 (fun kq v8 w' => ∃ (x8_2 : Int), v8 = .int .i64 x8_2 ∧ Aside0 (compassref11_Fits.l1 kq l1 l2 x8_2 a0_0 l0_1 = some r) ∧ Aside0 (kq ≤ k1) ∧ Aside0 (w'.heap[gb318]? = some (.cells #[.int .i64 a0_0, (.slice A0_1 l0_1.length c0_1)] 24 (0, 0))) ∧ Aside0 (Below w.heap.size w w'))
 case atStart => exact ⟨(0), sr, H', ⟨Nat.le_refl _⟩, xb BK318, ⟨lb⟩⟩
 clear H'; obtain ⟨x8_2, rfl, HA, HK2, BK318, HB⟩ := hrel
 cases gk with
 | zero => exact absurd HA.out (by simp [compassref11_Fits.l1])
 | succ k2 => ?_
 have H := HA.out; clear HA
 simp only [compassref11_Fits.l1] at H
 by_cases c15 : x8_2 < a0_0
 rotate_left
 ·
  rw [if_neg c15] at H; have c15b0 := decide_eq_false c15; clear c15; obtain rfl := Option.some.inj H; have ⟨_, _, _, _⟩ := cf2 BK318
  go_wp2
  go_ret
  exact ⟨er, lb⟩
 rw [if_pos c15] at H; have c15b0 := decide_eq_true c15; clear c15; replace H := Option.bind_eq_some_iff.mp H; obtain ⟨t322, A160, H⟩ := H; have A16 := ak A160; clear A160; replace H := if2 H; obtain ⟨c17b0, c18b0, H⟩ := H
 by_cases c19 : t322 = (rd l2 x8_2)
 rotate_left
 ·
  rw [if_neg c19] at H; have c19b := bn2 c19; obtain rfl := Option.some.inj H; have ⟨_, _, _, _⟩ := cf2 BK318
  try go_wp2
  have n_ := a2 (blk_drew BK318.out) (below_drew1 HB.out); clear BK318 HB; obtain ⟨BK318, HB⟩ := n_; obtain ⟨p323, q323, ad323, e323, hx323_0⟩ := wq (Kd.at_int HR2.out x8_2); have hw323_0 := hx323_0; cases e323
  (try replace hx323_0 := hbc HB hx323_0)
  refine stC 9 [] (cX (bc0 BK318) (cX (bc1 BK318) (cY (hbc HB hw323_0)))) compassref11_Fits.tab11 compassref11_Fits.bits11 fun hHeld HT_ HW_ => ?_
  generalize wr.drew = w24 at BK318 HB hx323_0 hHeld ⊢
  refine pv HT_ 1 46 ?_; refine pv HT_ 2 47 ?_; refine pv HT_ 4 49 ?_; refine pv HT_ 5 50 ?_; refine pv HT_ 6 51 ?_; refine tv HT_ HW_ hHeld 0 45 ?_; refine tv HT_ HW_ hHeld 7 52 ?_
  refine one_ (i := 3) (N := some 48) #[T, T, T, T, T, T, T, T, F] rfl rfl (one_of HT_.out (by kernel_rfl)) (by decide) (fun K hK => ?_)
  refine goes_ Try.func18 (by kernel_rfl) rfl #[.agg #[.int .i64 a0_0, .slice A0_1 l0_1.length c0_1], .slice A1 l1.length c1, .int .i64 x8_2] (by rfl) rfl rfl (by (try simp only [List.map_toArray, List.map_cons, List.map_nil]); first | done | rfl | (simp only [List.length_drop, List.length_take]; rfl)) ?_
  with_reducible refine (compassref11_Out.calls k2 a0_0 _ _ l0_1 _ _ l1 x8_2 t322 _ (Kd.C_below HR0_1.out lb) HC0_1.out (Kd.C_below HR1.out lb) HC1.out A16.out).mono ?_
  rintro e w25 ⟨rfl, hb⟩
  refine ⟨_, rfl, ?_⟩
  have n_ := a2 (bo BK318 hb) (bl hb); clear BK318 HB; obtain ⟨BK318, HB⟩ := n_
  (try clear hb)
  (try clear hb2)
  (try clear hk)
  (try clear hi)
  refine hK.out _ _ ⟨(blk_cell BK318.out 0).trans rfl, (blk_cell BK318.out 1).trans rfl, (hbc HB hw323_0)⟩ (fun hHeld => ?_)
  clear hK K
  refine norm_ (a' := ?_) ?_ ?_
  rotate_left
  ·
   show Act.put _ (some 48) _ = _
   simp only [Act.put, sA, sZ, sS, i64_w, i32_w]
   rfl
  refine pv HT_ 8 53 ?_
  refine done_ (done_of HT_.out (by kernel_rfl)) ?_
  try go_wp2
  go_ret
  exact ⟨er, lb⟩
 rw [if_pos c19] at H; have c19b := be2 c19; clear c19; have H' := ak H; clear H; have ⟨_, _, _, _⟩ := cf2 BK318
 try go_wp2
 have n_ := a2 (blk_drew BK318.out) (below_drew1 HB.out); clear BK318 HB; obtain ⟨BK318, HB⟩ := n_; obtain ⟨p323, q323, ad323, e323, hx323_0⟩ := wq (Kd.at_int HR2.out x8_2); have hw323_0 := hx323_0; cases e323
 (try replace hx323_0 := hbc HB hx323_0)
 refine stC 9 [] (cX (bc0 BK318) (cX (bc1 BK318) (cY (hbc HB hw323_0)))) compassref11_Fits.tab11 compassref11_Fits.bits11 fun hHeld HT_ HW_ => ?_
 generalize wr.drew = w21 at BK318 HB hx323_0 hHeld ⊢
 refine pv HT_ 1 46 ?_; refine pv HT_ 2 47 ?_; refine pv HT_ 4 49 ?_; refine pv HT_ 5 50 ?_; refine pv HT_ 6 51 ?_; refine tv HT_ HW_ hHeld 0 45 ?_; refine tv HT_ HW_ hHeld 7 52 ?_
 refine one_ (i := 3) (N := some 48) #[T, T, T, T, T, T, T, T, F] rfl rfl (one_of HT_.out (by kernel_rfl)) (by decide) (fun K hK => ?_)
 refine goes_ Try.func18 (by kernel_rfl) rfl #[.agg #[.int .i64 a0_0, .slice A0_1 l0_1.length c0_1], .slice A1 l1.length c1, .int .i64 x8_2] (by rfl) rfl rfl (by (try simp only [List.map_toArray, List.map_cons, List.map_nil]); first | done | rfl | (simp only [List.length_drop, List.length_take]; rfl)) ?_
 with_reducible refine (compassref11_Out.calls k2 a0_0 _ _ l0_1 _ _ l1 x8_2 t322 _ (Kd.C_below HR0_1.out lb) HC0_1.out (Kd.C_below HR1.out lb) HC1.out A16.out).mono ?_
 rintro e w22 ⟨rfl, hb⟩
 refine ⟨_, rfl, ?_⟩
 have n_ := a2 (bo BK318 hb) (bl hb); clear BK318 HB; obtain ⟨BK318, HB⟩ := n_
 (try clear hb)
 (try clear hb2)
 (try clear hk)
 (try clear hi)
 refine hK.out _ _ ⟨(blk_cell BK318.out 0).trans rfl, (blk_cell BK318.out 1).trans rfl, (hbc HB hw323_0)⟩ (fun hHeld => ?_)
 clear hK K
 refine norm_ (a' := ?_) ?_ ?_
 rotate_left
 ·
  show Act.put _ (some 48) _ = _
  simp only [Act.put, sA, sZ, sS, i64_w, i32_w]
  rfl
 refine pv HT_ 8 53 ?_
 refine done_ (done_of HT_.out (by kernel_rfl)) ?_
 try go_wp2
 go_roundg k2
 case measure => have := HK1.out; have := HK2.out; omega
 case rel => exact ⟨(wrap64 (x8_2 + 1)), sr, H', ⟨by have := HK1.out; have := HK2.out; omega⟩, xb BK318, ⟨lb⟩⟩
end Go.Proofs.Ytkdoihcjhccliaa.Q
