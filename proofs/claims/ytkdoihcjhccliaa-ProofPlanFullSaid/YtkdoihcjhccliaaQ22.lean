import Derived.Test.YtkdoihcjhccliaaQ0
import Derived.Test.YtkdoihcjhccliaaQ21
namespace Go.Proofs.Ytkdoihcjhccliaa.Q
open Go.RowKit Go.Proofs.YtkdoihcjhccliaaW.PrintWords Go.Proofs.YtkdoihcjhccliaaW.PrintLast Go.Proofs.YtkdoihcjhccliaaW.PrintMore
attribute [local go_sem] max2_int min2_int max_two min_two max_three min_three max_four min_four   -- for this text's walks alone
set_option linter.unusedVariables false
set_option linter.unusedSimpArgs false

/-! ### compassref11_Flows: function 19 -/
def compassref11_Flows.f (k : Nat) (a0_0 : Int) (l0_1 : List (S98)) (a1 : Int) (a2 : Int) (l3 : List Int) (a4 : Int) : Option (Bool) := if 0 ≤ a0_0 then (if (a0_0 : Int).toNat ≤ 35184372088832 then ((some (List.replicate (a0_0 : Int).toNat 0 : List Int)).bind fun y325 => (if 0 ≤ a1 then (if a1 < (y325.length : Int) then (if 0 ≤ a2 then (if a2 < (y325.length : Int) then ((compassref11_Fits.f k a0_0 l0_1 l3 ((y325.set (a1 : Int).toNat a4).set (a2 : Int).toNat (wrap64 (-a4)))).bind fun t330 => (some t330)) else (none)) else (none)) else (none)) else (none))) else (none)) else (none)
/-! ### compassref03_Bad: function 83 -/
def compassref03_Bad.j0 : Nat → Bool → Int → Int → Int → Int → Option (Int)
  | 0, _, _, _, _, _ => none
  | k + 1, x24, x332000, x332001, x332002, x332003 => if x24 = true then (some 30) else (if x332002 < 0 then (some 31) else (if x332002 > 1048576 then (some 31) else (if x332003 < (-1048576) then (some 31) else (if x332003 > 1048576 then (some 31) else (some 0)))))
def compassref03_Bad.f (k : Nat) (a0 : Int) (a1_0 : Int) (a1_1 : Int) (a1_2 : Int) (a1_3 : Int) : Option (Int) := if a1_0 < 0 then (compassref03_Bad.j0 k true a1_0 a1_1 a1_2 a1_3) else (if a1_1 < 0 then (compassref03_Bad.j0 k true a1_0 a1_1 a1_2 a1_3) else (if a1_0 ≥ a0 then (compassref03_Bad.j0 k true a1_0 a1_1 a1_2 a1_3) else (compassref03_Bad.j0 k (decide (a1_1 ≥ a0)) a1_0 a1_1 a1_2 a1_3)))
set_option maxHeartbeats 8000000 in
set_option maxRecDepth 100000 in
theorem compassref03_Bad.calls (k : Nat) (a0 : Int) (a1_0 : Int) (a1_1 : Int) (a1_2 : Int) (a1_3 : Int) (r : Int) (w : World) (h : compassref03_Bad.f k a0 a1_0 a1_1 a1_2 a1_3 = some r) :
    Calls Try.prog 83 #[.int .i64 a0, .agg #[.int .i64 a1_0, .int .i64 a1_1, .int .i64 a1_2, .int .i64 a1_3]] w fun e w' => e = .returned (.int .i64 r) ∧ Below w.heap.size w w' := by
 have hu98 := Try.underlying98; have HB := ak (Below.refl w.heap.size w); have H : (if a1_0 < 0 then (compassref03_Bad.j0 k true a1_0 a1_1 a1_2 a1_3) else (if a1_1 < 0 then (compassref03_Bad.j0 k true a1_0 a1_1 a1_2 a1_3) else (if a1_0 ≥ a0 then (compassref03_Bad.j0 k true a1_0 a1_1 a1_2 a1_3) else (compassref03_Bad.j0 k (decide (a1_1 ≥ a0)) a1_0 a1_1 a1_2 a1_3)))) = some r := h; clear h; have HC3 := ak H; clear H
 go_enter Try.func83, Try.ntmps83
 go_upto_region 1 with (first | ((with_reducible refine gate_dst (N := 3) rfl ?_); refine bxe 3 #[.int .i64 a1_0, .int .i64 a1_1, .int .i64 a1_2, .int .i64 a1_3] 98 ?_; intro gb331 hg w4 hbox hb; have n0_ := ak (bl hb); have n1_ := ak (hbox); have n2_ := ak (gw w hg); have n3_ := ak (gw w hg); clear HB; have HB := n0_; have BK331 := n1_; have GW331 := n2_; have GE331 := n3_; clear n0_ n1_ n2_ n3_; clear hb hbox hg))
 (try simp only [Act.put, sA, sZ, sS])
 go_cut [24] (fun v24 wc => ∃ (kq : Nat) (x24_2 : Bool), v24 = .bool x24_2 ∧ Aside0 (compassref03_Bad.j0 kq x24_2 a1_0 a1_1 a1_2 a1_3 = some r) ∧ Aside0 (kq ≤ k) ∧ Aside0 (wc.heap[gb331]? = some (.cells #[.int .i64 a1_0, .int .i64 a1_1, .int .i64 a1_2, .int .i64 a1_3] 98 (0, 0))) ∧ Aside0 (Below w.heap.size w wc))
 case first =>
  have H := HC3.out; clear HC3
  by_cases c5 : a1_0 < 0
  ·
   rw [if_pos c5] at H; have c5b0 := decide_eq_true c5; clear c5
   (first | rw [c5b0] | (simp only [i64_w, i32_w]; rw [c5b0]) | skip)
   have H' := ak H; clear H; have ⟨_, _, _, _, _, _, _, _⟩ := cf4 BK331
   go_wp2
   go_meet
   case rel => exact ⟨_, (true), sr, H', ⟨by first | omega | exact Nat.le_refl _⟩, xb BK331, ⟨lb⟩⟩
  rw [if_neg c5] at H; have c5b0 := decide_eq_false c5; clear c5
  (first | rw [c5b0] | (simp only [i64_w, i32_w]; rw [c5b0]) | skip)
  by_cases c7 : a1_1 < 0
  ·
   rw [if_pos c7] at H; have c7b0 := decide_eq_true c7; clear c7; have H' := ak H; clear H; have ⟨_, _, _, _, _, _, _, _⟩ := cf4 BK331
   go_wp2
   go_meet
   case rel => exact ⟨_, (true), sr, H', ⟨by first | omega | exact Nat.le_refl _⟩, xb BK331, ⟨lb⟩⟩
  rw [if_neg c7] at H; have c7b0 := decide_eq_false c7; clear c7
  by_cases c9 : a1_0 ≥ a0
  rotate_left
  ·
   rw [if_neg c9] at H; have c9b0 := decide_eq_false c9; clear c9; have H' := ak H; clear H; have ⟨_, _, _, _, _, _, _, _⟩ := cf4 BK331
   go_wp2
   go_meet
   case rel => exact ⟨_, (decide (a1_1 ≥ a0)), sr, H', ⟨by first | omega | exact Nat.le_refl _⟩, xb BK331, ⟨lb⟩⟩
  rw [if_pos c9] at H; have c9b0 := decide_eq_true c9; clear c9; have H' := ak H; clear H; have ⟨_, _, _, _, _, _, _, _⟩ := cf4 BK331
  go_wp2
  go_meet
  case rel => exact ⟨_, (true), sr, H', ⟨by first | omega | exact Nat.le_refl _⟩, xb BK331, ⟨lb⟩⟩
 case rest =>
  clear HC3; obtain ⟨kq, x24_2, rfl, HA, HJ2, BK331, HB⟩ := hcut
  cases kq with
  | zero => exact absurd HA.out (by simp [compassref03_Bad.j0])
  | succ kj2 =>
   have H := HA.out; clear HA
   simp only [compassref03_Bad.j0] at H
   by_cases c12 : x24_2 = true
   ·
    subst c12
    replace H := ip H; obtain rfl := Option.some.inj H
    go_wp2
    go_ret
    exact ⟨er, lb⟩
   replace c12 := Bool.eq_false_iff.mpr c12; subst c12
   have H1 : (if a1_2 < 0 then (some 31) else (if a1_2 > 1048576 then (some 31) else (if a1_3 < (-1048576) then (some 31) else (if a1_3 > 1048576 then (some 31) else (some 0))))) = some r := by rw [if_neg (show ¬ (false = true) by decide)] at H; exact H
   clear H; have H := H1; clear H1
   by_cases c13 : a1_2 < 0
   ·
    rw [if_pos c13] at H; have c13b0 := decide_eq_true c13; clear c13; obtain rfl := Option.some.inj H; have ⟨_, _, _, _, _, _, _, _⟩ := cf4 BK331
    go_wp2
    go_ret
    exact ⟨er, lb⟩
   rw [if_neg c13] at H; have c13b0 := decide_eq_false c13; clear c13
   by_cases c15 : a1_2 > 1048576
   ·
    rw [if_pos c15] at H; have c15b0 := decide_eq_true c15; clear c15; obtain rfl := Option.some.inj H; have ⟨_, _, _, _, _, _, _, _⟩ := cf4 BK331
    go_wp2
    go_ret
    exact ⟨er, lb⟩
   rw [if_neg c15] at H; have c15b0 := decide_eq_false c15; clear c15
   by_cases c17 : a1_3 < (-1048576)
   ·
    rw [if_pos c17] at H; have c17b0 := decide_eq_true c17; clear c17; obtain rfl := Option.some.inj H; have ⟨_, _, _, _, _, _, _, _⟩ := cf4 BK331
    go_wp2
    go_ret
    exact ⟨er, lb⟩
   rw [if_neg c17] at H; have c17b0 := decide_eq_false c17; clear c17
   by_cases c19 : a1_3 > 1048576
   ·
    rw [if_pos c19] at H; have c19b0 := decide_eq_true c19; clear c19; obtain rfl := Option.some.inj H; have ⟨_, _, _, _, _, _, _, _⟩ := cf4 BK331
    go_wp2
    go_ret
    exact ⟨er, lb⟩
   rw [if_neg c19] at H; have c19b0 := decide_eq_false c19; clear c19; obtain rfl := Option.some.inj H; have ⟨_, _, _, _, _, _, _, _⟩ := cf4 BK331
   go_wp2
   go_ret
   exact ⟨er, lb⟩

end Go.Proofs.Ytkdoihcjhccliaa.Q
