import Derived.Test.YtkdoihcjhccliaaQ0
import Derived.Test.YtkdoihcjhccliaaQ21
namespace Go.Proofs.Ytkdoihcjhccliaa.Q
open Go.RowKit Go.Proofs.YtkdoihcjhccliaaW.PrintWords Go.Proofs.YtkdoihcjhccliaaW.PrintLast Go.Proofs.YtkdoihcjhccliaaW.PrintMore
attribute [local go_sem] max2_int min2_int max_two min_two max_three min_three max_four min_four   -- for this text's walks alone
set_option linter.unusedVariables false
set_option linter.unusedSimpArgs false

/-! ### compassref11_Flows: function 19 -/
def compassref11_Flows.f (k : Nat) (a0_0 : Int) (l0_1 : List (S98)) (a1 : Int) (a2 : Int) (l3 : List Int) (a4 : Int) : Option (Bool) := if 0 ≤ a0_0 then (if (a0_0 : Int).toNat ≤ 35184372088832 then ((some (List.replicate (a0_0 : Int).toNat 0 : List Int)).bind fun y325 => (if 0 ≤ a1 then (if a1 < (y325.length : Int) then (if 0 ≤ a2 then (if a2 < (y325.length : Int) then ((compassref11_Fits.f k a0_0 l0_1 l3 ((y325.set (a1 : Int).toNat a4).set (a2 : Int).toNat (wrap64 (-a4)))).bind fun t330 => (some t330)) else (none)) else (none)) else (none)) else (none))) else (none)) else (none)
set_option maxHeartbeats 8000000 in
set_option maxRecDepth 100000 in
theorem compassref11_Flows.calls (k : Nat) (a0_0 : Int) (A0_1 : Option Addr) (c0_1 : Nat) (l0_1 : List (S98)) (a1 : Int) (a2 : Int) (A3 : Option Addr) (c3 : Nat) (l3 : List Int) (a4 : Int) (r : Bool) (w : World) (hr0_1 : Kd.C k98 w A0_1 l0_1.length l0_1) (hc0_1 : l0_1.length ≤ c0_1) (hr3 : Kd.C (Kd.int .i64) w A3 l3.length l3) (hc3 : l3.length ≤ c3) (h : compassref11_Flows.f k a0_0 l0_1 a1 a2 l3 a4 = some r) :
    Calls Try.prog 19 #[.agg #[.int .i64 a0_0, .slice A0_1 l0_1.length c0_1], .int .i64 a1, .int .i64 a2, .slice A3 l3.length c3, .int .i64 a4] w fun e w' => e = .returned (.bool r) ∧ Below w.heap.size w w' := by
 have hu24 := Try.underlying24; have HR0_1 := ak hr0_1; have HC0_1 := ak hc0_1; clear hr0_1 hc0_1; have HR3 := ak hr3; have HC3 := ak hc3; clear hr3 hc3; have HB := ak (Below.refl w.heap.size w); have H : (if 0 ≤ a0_0 then (if (a0_0 : Int).toNat ≤ 35184372088832 then ((some (List.replicate (a0_0 : Int).toNat 0 : List Int)).bind fun y325 => (if 0 ≤ a1 then (if a1 < (y325.length : Int) then (if 0 ≤ a2 then (if a2 < (y325.length : Int) then ((compassref11_Fits.f k a0_0 l0_1 l3 ((y325.set (a1 : Int).toNat a4).set (a2 : Int).toNat (wrap64 (-a4)))).bind fun t330 => (some t330)) else (none)) else (none)) else (none)) else (none))) else (none)) else (none)) = some r := h; clear h; replace H := ife H; obtain ⟨c6b0, c6b1, H⟩ := H; replace H := ife H; obtain ⟨c7b0, c7b1, H⟩ := H; obtain ⟨y325, hy325⟩ : ∃ y_ : List Int, y_ = (List.replicate (a0_0 : Int).toNat 0) := ⟨_, rfl⟩; rw [← hy325] at H; have Ny325 := ak hy325; clear hy325; replace H := if2 H; obtain ⟨c8b0, c9b0, H⟩ := H; obtain ⟨y328, hy328⟩ : ∃ y_ : List Int, y_ = (y325.set (a1 : Int).toNat a4) := ⟨_, rfl⟩; rw [← hy328] at H; have Ny328 := ak hy328; clear hy328; replace H := if2 H; obtain ⟨c11b0, c12b0, H⟩ := H; obtain ⟨y329, hy329⟩ : ∃ y_ : List Int, y_ = (y328.set (a2 : Int).toNat (wrap64 (-a4))) := ⟨_, rfl⟩; rw [← hy329] at H; have Ny329 := ak hy329; clear hy329; replace H := Option.bind_eq_some_iff.mp H; obtain ⟨t330, A140, H⟩ := H
 replace H : (some t330) = some r := H; have A14 := ak A140; clear A140; obtain rfl := Option.some.inj H
 go_enter Try.func19, Try.ntmps19
 go_wp2_with (first | ((with_reducible refine gate_dst (N := 5) rfl ?_); refine bxe 5 #[.int .i64 a0_0, .slice A0_1 l0_1.length c0_1] 24 ?_; intro gb324 hg w15 hbox hb; have n0_ := ak (bl hb); have n1_ := ak (hbox); have n2_ := ak (gw w hg); have n3_ := ak (gw w hg); clear HB; have HB := n0_; have BK324 := n1_; have GW324 := n2_; have GE324 := n3_; clear n0_ n1_ n2_ n3_; clear hb hbox hg; have ⟨_, _, _, _⟩ := cf2 BK324) | ((with_reducible refine gate_dst (N := 14) rfl ?_); refine Kd.R_make (Kd.int .i64) _ 2 rfl (N := 14) rfl 25 _ _ rfl a0_0 rfl rfl Try.underlying25 (.int .i64 0) 8 info2 rfl (by decide) (by omega) 0 (ok := fun _ => True) (okp := fun _ => True) rfl (fun _ hk => hk) trivial (oda) (Nat.le_trans (Nat.mul_le_mul_right _ (oda : a0_0.toNat ≤ 35184372088832)) (by omega)) (Below.refl _ _) (Nat.le_refl _) ?_; intro v326 w17 ho18 hb hg_ hnew_; clear hg_ hnew_; (first | rw [← Ny325.out] at ho18 | (simp only [Int.reduceToNat] at ho18; rw [← Ny325.out] at ho18)); have n0_ := ak (Kd.R_lower ho18 (below_size lb)); have n1_ := ak (bo BK324 hb); have n2_ := ak (bl hb); clear BK324; clear HB; have HO327 := n0_; have BK324 := n1_; have HB := n2_; clear n0_ n1_ n2_; clear hb ho18; have p10 : 0 ≤ (a1 : Int) := oda; have q10 : (a1 : Int) < ((y325.length : Int) : Int) := oda; obtain ⟨go10, co10, eo10, gb10, gl10, cl10, HG10⟩ := Kd.R_form HO327.out (by omega); (first | cases eo10 | (injection eo10 with ea_ en_ ec_; (first | subst ea_ | (injection ea_ with ea_; subst ea_)); subst ec_; clear en_)); have GB10 := ak gb10; have GG10 := ak HG10; clear gb10 gl10 HG10; obtain ⟨hx10_0, hf10_0⟩ := Kd.R_celln 0 HO327.out (a1 : Int) p10 q10; replace p10 := eq_true p10; replace q10 := eq_true q10; obtain ⟨hy19_, hz19_⟩ := Kd.R_celln 0 HO327.out (a1 : Int) (oda) (oda); have HP19 := Kd.R_putg HO327.out (a1 : Int) a4) | ((with_reducible refine gate_store (t := 2) (p := 18) rfl ?_); refine store_event (t := 2) (p := 18) (v := ?vo_w20) (w1 := (w17.setCell ⟨go10, (a1 : Int).toNat, none⟩ (.int .i64 a4))) ?hg ?ho ?hn ?hr ?_; (case ho => rfl); (case hg => rfl); (case hn => rfl); (case hr => first | (go_simp; done) | (go_simp; rfl)); intro w20 hw; have hg : w17.grownBy w20 (some go10) := (by rw [hw]; exact HP19.2); have hp_ : Kd.R (Kd.int .i64) 2 w20 w.heap.size (fun _ => True) (.slice (some ⟨go10, 0, none⟩) y325.length co10) y328 := (by rw [hw, Ny328.out]; exact HP19.1); clear HP19; have n0_ := ak (blk_grown (bx BK324.out) hg (Kd.R_ne HO327.out BK324.out (by decide))); have n1_ := ak (hp_); have n2_ := ak ((by rw [hw]; exact below_set (HB.out) GB10.out : Below w.heap.size w w20)); clear BK324; clear HO327; clear HB; have BK324 := n0_; have HO327 := n1_; have HB := n2_; clear n0_ n1_ n2_; clear hg hw hp_; have p13 : 0 ≤ (a2 : Int) := oda; have q13 : (a2 : Int) < ((y325.length : Int) : Int) := oda; obtain ⟨hx13_0, hf13_0⟩ := Kd.R_celln 0 HO327.out (a2 : Int) p13 q13; replace p13 := eq_true p13; replace q13 := eq_true q13; obtain ⟨hy21_, hz21_⟩ := Kd.R_celln 0 HO327.out (a2 : Int) (oda) (oda); have HP21 := Kd.R_putg HO327.out (a2 : Int) (wrap64 (-a4))) | ((with_reducible refine gate_store (t := 2) (p := 23) rfl ?_); refine store_event (t := 2) (p := 23) (v := ?vo_w22) (w1 := (w20.setCell ⟨go10, (a2 : Int).toNat, none⟩ (.int .i64 (wrap64 (-a4))))) ?hg ?ho ?hn ?hr ?_; (case ho => rfl); (case hg => rfl); (case hn => rfl); (case hr => first | (go_simp; done) | (go_simp; rfl)); intro w22 hw; have hg : w20.grownBy w22 (some go10) := (by rw [hw]; exact HP21.2); have hp_ : Kd.R (Kd.int .i64) 2 w22 w.heap.size (fun _ => True) (.slice (some ⟨go10, 0, none⟩) y325.length co10) y329 := (by rw [hw, Ny329.out]; exact HP21.1); clear HP21; have n0_ := ak (blk_grown (bx BK324.out) hg (Kd.R_ne HO327.out BK324.out (by decide))); have n1_ := ak (hp_); have n2_ := ak ((by rw [hw]; exact below_set (HB.out) GB10.out : Below w.heap.size w w22)); clear BK324; clear HO327; clear HB; have BK324 := n0_; have HO327 := n1_; have HB := n2_; clear n0_ n1_ n2_; clear hg hw hp_; have ⟨_, _, _, _⟩ := cf2 BK324) | ((with_reducible refine gate_callee (f := 30) rfl ?_); refine goesL_ (some 27) rfl rfl Try.func30 (by kernel_rfl) rfl #[.agg #[.int .i64 a0_0, .slice A0_1 l0_1.length c0_1], .slice A3 l3.length c3, .slice (some ⟨go10, 0, none⟩) y329.length co10] rfl (by (try simp only [List.map_toArray, List.map_cons, List.map_nil]); first | done | (rw [show y329.length = y325.length from (Kd.R_reads' HO327.out).1.symm] <;> rfl) | rfl | (simp only [List.length_drop, List.length_take]; rfl)) ?_; (with_reducible refine (compassref11_Fits.calls k a0_0 _ _ l0_1 _ _ l3 _ _ y329 t330 _ ?side1 ?side2 ?side3 ?side4 ?side5 ?side6 A14.out).mono ?_); (case side1 => exact Kd.C_below HR0_1.out lb); (case side2 => exact HC0_1.out); (case side3 => exact Kd.C_below HR3.out lb); (case side4 => exact HC3.out); (case side5 => repeat (first | exact (Kd.R_reads' HO327.out).2.2 | (with_reducible refine Kd.C_alloc ?_ _) | (with_reducible refine Kd.C_drewN ?_ _) | (with_reducible refine Kd.C_drew ?_))); (case side6 => rw [show y329.length = y325.length from (Kd.R_reads' HO327.out).1.symm]; exact (Kd.R_reads' HO327.out).2.1); rintro e w24 ⟨rfl, hb⟩; refine ⟨_, rfl, ?_⟩; have n0_ := ak (ro HO327 hb); have n1_ := ak (bo BK324 hb); have n2_ := ak (bl hb); clear HO327; clear BK324; clear HB; have HO327 := n0_; have BK324 := n1_; have HB := n2_; clear n0_ n1_ n2_; clear hb))
 go_ret
 exact ⟨er, lb⟩
/-! ### compassref03_Bad: function 83 -/
def compassref03_Bad.j0 : Nat → Bool → Int → Int → Int → Int → Option (Int)
  | 0, _, _, _, _, _ => none
  | k + 1, x24, x332000, x332001, x332002, x332003 => if x24 = true then (some 30) else (if x332002 < 0 then (some 31) else (if x332002 > 1048576 then (some 31) else (if x332003 < (-1048576) then (some 31) else (if x332003 > 1048576 then (some 31) else (some 0)))))
def compassref03_Bad.f (k : Nat) (a0 : Int) (a1_0 : Int) (a1_1 : Int) (a1_2 : Int) (a1_3 : Int) : Option (Int) := if a1_0 < 0 then (compassref03_Bad.j0 k true a1_0 a1_1 a1_2 a1_3) else (if a1_1 < 0 then (compassref03_Bad.j0 k true a1_0 a1_1 a1_2 a1_3) else (if a1_0 ≥ a0 then (compassref03_Bad.j0 k true a1_0 a1_1 a1_2 a1_3) else (compassref03_Bad.j0 k (decide (a1_1 ≥ a0)) a1_0 a1_1 a1_2 a1_3)))
set_option maxHeartbeats 8000000 in
set_option maxRecDepth 100000 in
theorem compassref03_Bad.calls (k : Nat) (a0 : Int) (a1_0 : Int) (a1_1 : Int) (a1_2 : Int) (a1_3 : Int) (r : Int) (w : World) (h : compassref03_Bad.f k a0 a1_0 a1_1 a1_2 a1_3 = some r) :
    Calls Try.prog 83 #[.int .i64 a0, .agg #[.int .i64 a1_0, .int .i64 a1_1, .int .i64 a1_2, .int .i64 a1_3]] w fun e w' => e = .returned (.int .i64 r) ∧ Below w.heap.size w w' := by
 have hu98 := Try.underlying98; have HB := ak (Below.refl w.heap.size w); have H : (if a1_0 < 0 then (compassref03_Bad.j0 k true a1_0 a1_1 a1_2 a1_3) else (if a1_1 < 0 then (compassref03_Bad.j0 k true a1_0 a1_1 a1_2 a1_3) else (if a1_0 ≥ a0 then (compassref03_Bad.j0 k true a1_0 a1_1 a1_2 a1_3) else (compassref03_Bad.j0 k (decide (a1_1 ≥ a0)) a1_0 a1_1 a1_2 a1_3)))) = some r := h; clear h; have HC3 := ak H; clear H
 go_enter Try.func83, Try.ntmps83
 go_upto_region 1 with (first | ((with_reducible refine gate_dst (N := 3) rfl ?_); refine bxe 3 #[.int .i64 a1_0, .int .i64 a1_1, .int .i64 a1_2, .int .i64 a1_3] 98 ?_; intro gb331 hg w4 hbox hb; have n0_ := ak (bl hb); have n1_ := ak (hbox); have n2_ := ak (gw w hg); have n3_ := ak (gw w hg); clear HB; have HB := n0_; have BK331 := n1_; have GW331 := n2_; have GE331 := n3_; clear n0_ n1_ n2_ n3_; clear hb hbox hg))
 (try simp only [Act.put, sA, sZ, sS])
 go_cut [24] (fun v24 wc => ∃ (kq : Nat) (x24_2 : Bool), v24 = .bool x24_2 ∧ Aside0 (compassref03_Bad.j0 kq x24_2 a1_0 a1_1 a1_2 a1_3 = some r) ∧ Aside0 (kq ≤ k) ∧ Aside0 (wc.heap[gb331]? = some (.cells #[.int .i64 a1_0, .int .i64 a1_1, .int .i64 a1_2, .int .i64 a1_3] 98 (0, 0))) ∧ Aside0 (Below w.heap.size w wc))
 case first =>
  have H := HC3.out; clear HC3
  by_cases c5 : a1_0 < 0
  ·
   rw [if_pos c5] at H; have c5b0 := decide_eq_true c5; clear c5
   (first | rw [c5b0] | (simp only [i64_w, i32_w]; rw [c5b0]) | skip)
   have H' := ak H; clear H; have ⟨_, _, _, _, _, _, _, _⟩ := cf4 BK331
   go_wp2
   go_meet
   case rel => exact ⟨_, (true), sr, H', ⟨by first | omega | exact Nat.le_refl _⟩, xb BK331, ⟨lb⟩⟩
  rw [if_neg c5] at H; have c5b0 := decide_eq_false c5; clear c5
  (first | rw [c5b0] | (simp only [i64_w, i32_w]; rw [c5b0]) | skip)
  by_cases c7 : a1_1 < 0
  ·
   rw [if_pos c7] at H; have c7b0 := decide_eq_true c7; clear c7; have H' := ak H; clear H; have ⟨_, _, _, _, _, _, _, _⟩ := cf4 BK331
   go_wp2
   go_meet
   case rel => exact ⟨_, (true), sr, H', ⟨by first | omega | exact Nat.le_refl _⟩, xb BK331, ⟨lb⟩⟩
  rw [if_neg c7] at H; have c7b0 := decide_eq_false c7; clear c7
  by_cases c9 : a1_0 ≥ a0
  rotate_left
  ·
   rw [if_neg c9] at H; have c9b0 := decide_eq_false c9; clear c9; have H' := ak H; clear H; have ⟨_, _, _, _, _, _, _, _⟩ := cf4 BK331
   go_wp2
   go_meet
   case rel => exact ⟨_, (decide (a1_1 ≥ a0)), sr, H', ⟨by first | omega | exact Nat.le_refl _⟩, xb BK331, ⟨lb⟩⟩
  rw [if_pos c9] at H; have c9b0 := decide_eq_true c9; clear c9; have H' := ak H; clear H; have ⟨_, _, _, _, _, _, _, _⟩ := cf4 BK331
  go_wp2
  go_meet
  case rel => exact ⟨_, (true), sr, H', ⟨by first | omega | exact Nat.le_refl _⟩, xb BK331, ⟨lb⟩⟩
 case rest =>
  clear HC3; obtain ⟨kq, x24_2, rfl, HA, HJ2, BK331, HB⟩ := hcut
  cases kq with
  | zero => exact absurd HA.out (by simp [compassref03_Bad.j0])
  | succ kj2 =>
   have H := HA.out; clear HA
   simp only [compassref03_Bad.j0] at H
   by_cases c12 : x24_2 = true
   ·
    subst c12
    replace H := ip H; obtain rfl := Option.some.inj H
    go_wp2
    go_ret
    exact ⟨er, lb⟩
   replace c12 := Bool.eq_false_iff.mpr c12; subst c12
   have H1 : (if a1_2 < 0 then (some 31) else (if a1_2 > 1048576 then (some 31) else (if a1_3 < (-1048576) then (some 31) else (if a1_3 > 1048576 then (some 31) else (some 0))))) = some r := by rw [if_neg (show ¬ (false = true) by decide)] at H; exact H
   clear H; have H := H1; clear H1
   by_cases c13 : a1_2 < 0
   ·
    rw [if_pos c13] at H; have c13b0 := decide_eq_true c13; clear c13; obtain rfl := Option.some.inj H; have ⟨_, _, _, _, _, _, _, _⟩ := cf4 BK331
    go_wp2
    go_ret
    exact ⟨er, lb⟩
   rw [if_neg c13] at H; have c13b0 := decide_eq_false c13; clear c13
   by_cases c15 : a1_2 > 1048576
   ·
    rw [if_pos c15] at H; have c15b0 := decide_eq_true c15; clear c15; obtain rfl := Option.some.inj H; have ⟨_, _, _, _, _, _, _, _⟩ := cf4 BK331
    go_wp2
    go_ret
    exact ⟨er, lb⟩
   rw [if_neg c15] at H; have c15b0 := decide_eq_false c15; clear c15
   by_cases c17 : a1_3 < (-1048576)
   ·
    rw [if_pos c17] at H; have c17b0 := decide_eq_true c17; clear c17; obtain rfl := Option.some.inj H; have ⟨_, _, _, _, _, _, _, _⟩ := cf4 BK331
    go_wp2
    go_ret
    exact ⟨er, lb⟩
   rw [if_neg c17] at H; have c17b0 := decide_eq_false c17; clear c17
   by_cases c19 : a1_3 > 1048576
   ·
    rw [if_pos c19] at H; have c19b0 := decide_eq_true c19; clear c19; obtain rfl := Option.some.inj H; have ⟨_, _, _, _, _, _, _, _⟩ := cf4 BK331
    go_wp2
    go_ret
    exact ⟨er, lb⟩
   rw [if_neg c19] at H; have c19b0 := decide_eq_false c19; clear c19; obtain rfl := Option.some.inj H; have ⟨_, _, _, _, _, _, _, _⟩ := cf4 BK331
   go_wp2
   go_ret
   exact ⟨er, lb⟩

end Go.Proofs.Ytkdoihcjhccliaa.Q
