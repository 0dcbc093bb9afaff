-- PRINTED by print.py (a twelfth state) out of the translation. Not trusted: Lean checks it.
import Derived.Test.YtkdoihcjhccliaaQ0
import Derived.Test.YtkdoihcjhccliaaQ3
import Derived.Test.YtkdoihcjhccliaaQ36
namespace Go.Proofs.Ytkdoihcjhccliaa.Q
open Go.RowKit Go.Proofs.YtkdoihcjhccliaaW.PrintWords Go.Proofs.YtkdoihcjhccliaaW.PrintLast Go.Proofs.YtkdoihcjhccliaaW.PrintMore
attribute [local go_sem] max2_int min2_int max_two min_two max_three min_three max_four min_four   -- for this text's walks alone
set_option linter.unusedVariables false
set_option linter.unusedSimpArgs false

/-! ### GIVEN: proof_Acyclic: function 39 -/
def proof_Acyclic.f (k : Nat) (a0_0 : Int) (l0_1 : List S98) (l1 : List Int) : Option (Int) := proof_Acyclic_1.f k a0_0 l0_1 l1
theorem proof_Acyclic.look (k : Nat) (a0_0 : Int) (A0_1 : Option Addr) (c0_1 : Nat) (l0_1 : List S98) (A1 : Option Addr) (c1 : Nat) (l1 : List Int) (c : Int)  (w W : World) (g0 g1 : Nat) (hr0_1 : Kd.C k98 w A0_1 l0_1.length l0_1) (hc0_1 : l0_1.length ≤ c0_1) (hr1 : Kd.C (Kd.int .i64) w A1 l1.length l1) (hc1 : l1.length ≤ c1) (hB : Below w.heap.size w W) (b0 : W.heap[g0]? = some (.cells #[.int .i64 a0_0, .slice A0_1 l0_1.length c0_1] 24 (0, 0))) (e0 : w.heap.size ≤ g0) (b1 : W.heap[g1]? = some (.cells #[.slice A1 l1.length c1] 70 (0, 0))) (e1 : w.heap.size ≤ g1) (n0_1 : g0 ≠ g1) (H : proof_Acyclic_1.f k a0_0 l0_1 l1  = some c) {R : Ending → World → Prop}
    (hR : ∀ w4, Below w.heap.size w w4 → R (.returned (.int .i64 c)) w4) : Calls Try.prog 48 #[.func (.func 78) #[] #[.pointer (some ⟨g0, 0, none⟩), .pointer (some ⟨g1, 0, none⟩)]] W R := by
  refine proof_look.any (G := fun W4 => Below w.heap.size w W4) c Try.func78 (by kernel_rfl) rfl ((proof_Acyclic_1.calls k a0_0 A0_1 c0_1 l0_1 A1 c1 l1  c  w (W.alloc (.cells #[.int .i64 0] 30)) g0 g1 W.heap.size hr0_1 hc0_1 hr1 hc1 (below_alloc hB _) (blk_alloc b0 _) e0 (blk_alloc b1 _) e1 (blk_new W _) hB.size n0_1 (Nat.ne_of_lt (blk_lt b0)) (Nat.ne_of_lt (blk_lt b1)) H).mono fun e W4 h_ => ?_) (fun w' w'' h_ k_ => ?_)
  · obtain ⟨x0, x2, x3⟩ := h_; exact ⟨x0, x2, x3⟩
  · have x3 := h_; exact hR w'' (x3.trans (k_.mono hB.size))
set_option maxHeartbeats 2000000 in
set_option maxRecDepth 100000 in
theorem proof_Acyclic.calls (k : Nat) (a0_0 : Int) (A0_1 : Option Addr) (c0_1 : Nat) (l0_1 : List S98) (A1 : Option Addr) (c1 : Nat) (l1 : List Int) (r : Int) (w : World) (hr0_1 : Kd.C k98 w A0_1 l0_1.length l0_1) (hc0_1 : l0_1.length ≤ c0_1) (hr1 : Kd.C (Kd.int .i64) w A1 l1.length l1) (hc1 : l1.length ≤ c1) (h : proof_Acyclic.f k a0_0 l0_1 l1 = some r) :
    Calls Try.prog 39 #[.agg #[.int .i64 a0_0, .slice A0_1 l0_1.length c0_1], .slice A1 l1.length c1] w fun e w' => e = .returned (.int .i64 r) ∧ Below w.heap.size w w' := by
  have H : proof_Acyclic_1.f k a0_0 l0_1 l1 = some r := h
  have A_ := Aside0.mk H
  clear h H
  have HR0_1 := Aside0.mk hr0_1
  have HC0_1 := Aside0.mk hc0_1
  clear hr0_1 hc0_1
  have HR1 := Aside0.mk hr1
  have HC1 := Aside0.mk hc1
  clear hr1 hc1
  have hmf : ∀ (fn : Fn) (first cap : Array Value) (w : World), (Instr.makeFunc fn first cap).run Try.prog w = .ok (.func fn first cap) w := fun _ _ _ _ => rfl
  have hu24 := Try.underlying24
  go_enter Try.func39, Try.ntmps39
  go_wp2_with (first | ((with_reducible refine gate_dst (N := 2) rfl ?_); refine bxe 2 #[.int .i64 a0_0, .slice A0_1 l0_1.length c0_1] 24 ?_; intro g0 e_ w0_ b_ l_; have HL_g0 := Aside0.mk (show Below w.heap.size w w0_ from l_); have GG_g0 := Aside0.mk (show w.heap.size ≤ g0 from by rw [e_]; exact Nat.le_refl _); have BB_g0 := Aside0.mk b_; clear e_ b_ l_) | ((with_reducible refine gate_dst (N := 3) rfl ?_); refine bxe 3 #[.slice A1 l1.length c1] 70 ?_; intro g1 e_ w1_ b_ l_; have n_g0 := Aside0.mk (blk_below BB_g0.out l_); have m_g0_g1 := Aside0.mk (show g0 ≠ g1 from by rw [e_]; exact Nat.ne_of_lt (blk_lt BB_g0.out)); have HL_g1 := Aside0.mk (show Below w.heap.size w w1_ from below_step HL_g0.out l_); have GG_g1 := Aside0.mk (show w.heap.size ≤ g1 from by rw [e_]; exact HL_g0.out.size); clear BB_g0; have BB_g0 := n_g0; clear n_g0; have BB_g1 := Aside0.mk b_; clear e_ b_ l_) | ((with_reducible refine gate_callee (f := 48) rfl ?_); refine gl 6 Try.func48 #[.func (.func 78) #[] #[.pointer (some ⟨g0, 0, none⟩), .pointer (some ⟨g1, 0, none⟩)]] ?_; refine proof_Acyclic.look k a0_0 A0_1 c0_1 l0_1 A1 c1 l1 r  w _ g0 g1 HR0_1.out HC0_1.out HR1.out HC1.out HL_g1.out BB_g0.out GG_g0.out BB_g1.out GG_g1.out m_g0_g1.out A_.out (fun w4 l4 => ⟨_, rfl, ?_⟩); have L4 := Aside0.mk l4; clear l4))
  go_ret
  exact ⟨by first | rfl | (simp; done), L4.out⟩

/-! ### compassref11_Place: function 79 -/
def compassref11_Place.l0 : Nat → List Int → Int → Int → Option (Int)
  | 0, _, _, _ => none
  | k + 1, x0, x1, x5 => if x5 < (x0.length : Int) then (if 0 ≤ x5 then (if (rd x0 x5) = x1 then (some x5) else (compassref11_Place.l0 k x0 x1 (wrap64 (x5 + 1)))) else (none)) else (some (-1))
def compassref11_Place.f (k : Nat) (l0 : List Int) (a1 : Int) : Option (Int) := compassref11_Place.l0 k l0 a1 0
set_option maxHeartbeats 8000000 in
set_option maxRecDepth 100000 in
theorem compassref11_Place.calls (k : Nat) (A0 : Option Addr) (c0 : Nat) (l0 : List Int) (a1 : Int) (r : Int) (w : World) (hr0 : Kd.C (Kd.int .i64) w A0 l0.length l0) (hc0 : l0.length ≤ c0) (h : compassref11_Place.f k l0 a1 = some r) :
    Calls Try.prog 79 #[.slice A0 l0.length c0, .int .i64 a1] w fun e w' => e = .returned (.int .i64 r) ∧ Drawn0 w w' := by
 have HR0 := ak hr0
 have HC0 := ak hc0
 clear hr0 hc0
 have H : (compassref11_Place.l0 k l0 a1 0) = some r := h
 clear h
 have H' := ak H
 clear H
 go_enter Try.func79, Try.ntmps79
 go_wp2
 go_loopg [5] k (fun kq v5 w' => ∃ (x5_1 : Int), v5 = .int .i64 x5_1 ∧ Aside0 (compassref11_Place.l0 kq l0 a1 x5_1 = some r) ∧ Aside0 (kq ≤ k) ∧ Drawn0 w w')
 case atStart => exact ⟨(0), sr, H', ⟨Nat.le_refl _⟩, by repeat (first | exact Drawn0.refl _ | apply Drawn0.step)⟩
 clear H'
 try clear p2
 obtain ⟨x5_1, rfl, HA, HK1, ⟨m1, rfl⟩⟩ := hrel
 cases gk with
 | zero => exact absurd HA.out (by simp [compassref11_Place.l0])
 | succ k1 => ?_
 have H := HA.out
 clear HA
 simp only [compassref11_Place.l0] at H
 by_cases c3 : x5_1 < (l0.length : Int)
 rotate_left
 ·
  rw [if_neg c3] at H
  have c3b0 := decide_eq_false c3
  clear c3
  obtain rfl := Option.some.inj H
  go_wp2
  go_ret
  exact ⟨by first | rfl | (simp; done) | (simp [*]; done), by repeat (first | exact Drawn0.refl _ | apply Drawn0.step)⟩

 rw [if_pos c3] at H
 have c3b0 := decide_eq_true c3
 clear c3
 by_cases c4 : 0 ≤ x5_1
 rotate_left
 ·
  rw [if_neg c4] at H
  exact absurd H (by simp)
 rw [if_pos c4] at H
 have c4b0 := decide_eq_true c4
 clear c4
 by_cases c5 : (rd l0 x5_1) = a1
 ·
  rw [if_pos c5] at H
  have c5b0 := be c5
  have c5b1 : ((rd l0 x5_1) != a1) = false := bne_eq_false_iff_eq.mpr c5
  clear c5
  obtain rfl := Option.some.inj H
  have p452 : 0 ≤ (x5_1 : Int) := oda
  have q452 : x5_1 < (l0.length : Int) := oda
  obtain ⟨ad452, e452, hx452_0⟩ := Kd.at_int HR0.out x5_1 p452 q452
  cases e452
  replace p452 := eq_true p452
  replace q452 := eq_true q452
  go_wp2
  go_ret
  exact ⟨by first | rfl | (simp; done) | (simp [*]; done), by repeat (first | exact Drawn0.refl _ | apply Drawn0.step)⟩
 rw [if_neg c5] at H
 have c5b0 := bn c5
 have c5b1 : ((rd l0 x5_1) != a1) = true := bne_iff_ne.mpr c5
 have H' := ak H
 clear H
 have p452 : 0 ≤ (x5_1 : Int) := oda
 have q452 : x5_1 < (l0.length : Int) := oda
 obtain ⟨ad452, e452, hx452_0⟩ := Kd.at_int HR0.out x5_1 p452 q452
 cases e452
 replace p452 := eq_true p452
 replace q452 := eq_true q452
 go_wp2
 go_roundg k1
 case measure => have := HK1.out; omega
 case rel => exact ⟨(wrap64 (x5_1 + 1)), sr, H', ⟨by have := HK1.out; omega⟩, by repeat (first | exact Drawn0.refl _ | apply Drawn0.step)⟩
end Go.Proofs.Ytkdoihcjhccliaa.Q
