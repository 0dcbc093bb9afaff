-- PRINTED by print.py (a twelfth state) out of the translation. Not trusted: Lean checks it.
import Derived.Test.YtkdoihcjhccliaaQ0
import Derived.Test.YtkdoihcjhccliaaQ3
import Derived.Test.YtkdoihcjhccliaaQ36
namespace Go.Proofs.Ytkdoihcjhccliaa.Q
open Go.RowKit Go.Proofs.YtkdoihcjhccliaaW.PrintWords Go.Proofs.YtkdoihcjhccliaaW.PrintLast Go.Proofs.YtkdoihcjhccliaaW.PrintMore
attribute [local go_sem] max2_int min2_int max_two min_two max_three min_three max_four min_four   -- for this text's walks alone
set_option linter.unusedVariables false
set_option linter.unusedSimpArgs false

/-! ### GIVEN: proof_Acyclic: function 39 -/
def proof_Acyclic.f (k : Nat) (a0_0 : Int) (l0_1 : List S98) (l1 : List Int) : Option (Int) := proof_Acyclic_1.f k a0_0 l0_1 l1
theorem proof_Acyclic.look (k : Nat) (a0_0 : Int) (A0_1 : Option Addr) (c0_1 : Nat) (l0_1 : List S98) (A1 : Option Addr) (c1 : Nat) (l1 : List Int) (c : Int)  (w W : World) (g0 g1 : Nat) (hr0_1 : Kd.C k98 w A0_1 l0_1.length l0_1) (hc0_1 : l0_1.length ≤ c0_1) (hr1 : Kd.C (Kd.int .i64) w A1 l1.length l1) (hc1 : l1.length ≤ c1) (hB : Below w.heap.size w W) (b0 : W.heap[g0]? = some (.cells #[.int .i64 a0_0, .slice A0_1 l0_1.length c0_1] 24 (0, 0))) (e0 : w.heap.size ≤ g0) (b1 : W.heap[g1]? = some (.cells #[.slice A1 l1.length c1] 70 (0, 0))) (e1 : w.heap.size ≤ g1) (n0_1 : g0 ≠ g1) (H : proof_Acyclic_1.f k a0_0 l0_1 l1  = some c) {R : Ending → World → Prop}
    (hR : ∀ w4, Below w.heap.size w w4 → R (.returned (.int .i64 c)) w4) : Calls Try.prog 48 #[.func (.func 78) #[] #[.pointer (some ⟨g0, 0, none⟩), .pointer (some ⟨g1, 0, none⟩)]] W R := by
  refine proof_look.any (G := fun W4 => Below w.heap.size w W4) c Try.func78 (by kernel_rfl) rfl ((proof_Acyclic_1.calls k a0_0 A0_1 c0_1 l0_1 A1 c1 l1  c  w (W.alloc (.cells #[.int .i64 0] 30)) g0 g1 W.heap.size hr0_1 hc0_1 hr1 hc1 (below_alloc hB _) (blk_alloc b0 _) e0 (blk_alloc b1 _) e1 (blk_new W _) hB.size n0_1 (Nat.ne_of_lt (blk_lt b0)) (Nat.ne_of_lt (blk_lt b1)) H).mono fun e W4 h_ => ?_) (fun w' w'' h_ k_ => ?_)
  · obtain ⟨x0, x2, x3⟩ := h_; exact ⟨x0, x2, x3⟩
  · have x3 := h_; exact hR w'' (x3.trans (k_.mono hB.size))
set_option maxHeartbeats 2000000 in
set_option maxRecDepth 100000 in
theorem proof_Acyclic.calls (k : Nat) (a0_0 : Int) (A0_1 : Option Addr) (c0_1 : Nat) (l0_1 : List S98) (A1 : Option Addr) (c1 : Nat) (l1 : List Int) (r : Int) (w : World) (hr0_1 : Kd.C k98 w A0_1 l0_1.length l0_1) (hc0_1 : l0_1.length ≤ c0_1) (hr1 : Kd.C (Kd.int .i64) w A1 l1.length l1) (hc1 : l1.length ≤ c1) (h : proof_Acyclic.f k a0_0 l0_1 l1 = some r) :
    Calls Try.prog 39 #[.agg #[.int .i64 a0_0, .slice A0_1 l0_1.length c0_1], .slice A1 l1.length c1] w fun e w' => e = .returned (.int .i64 r) ∧ Below w.heap.size w w' := by
  have H : proof_Acyclic_1.f k a0_0 l0_1 l1 = some r := h
  have A_ := Aside0.mk H
  clear h H
  have HR0_1 := Aside0.mk hr0_1
  have HC0_1 := Aside0.mk hc0_1
  clear hr0_1 hc0_1
  have HR1 := Aside0.mk hr1
  have HC1 := Aside0.mk hc1
  clear hr1 hc1
  have hmf : ∀ (fn : Fn) (first cap : Array Value) (w : World), (Instr.makeFunc fn first cap).run Try.prog w = .ok (.func fn first cap) w := fun _ _ _ _ => rfl
  have hu24 := Try.underlying24
  go_enter Try.func39, Try.ntmps39
  go_wp2_with (first | ((with_reducible refine gate_dst (N := 2) rfl ?_); refine bxe 2 #[.int .i64 a0_0, .slice A0_1 l0_1.length c0_1] 24 ?_; intro g0 e_ w0_ b_ l_; have HL_g0 := Aside0.mk (show Below w.heap.size w w0_ from l_); have GG_g0 := Aside0.mk (show w.heap.size ≤ g0 from by rw [e_]; exact Nat.le_refl _); have BB_g0 := Aside0.mk b_; clear e_ b_ l_) | ((with_reducible refine gate_dst (N := 3) rfl ?_); refine bxe 3 #[.slice A1 l1.length c1] 70 ?_; intro g1 e_ w1_ b_ l_; have n_g0 := Aside0.mk (blk_below BB_g0.out l_); have m_g0_g1 := Aside0.mk (show g0 ≠ g1 from by rw [e_]; exact Nat.ne_of_lt (blk_lt BB_g0.out)); have HL_g1 := Aside0.mk (show Below w.heap.size w w1_ from below_step HL_g0.out l_); have GG_g1 := Aside0.mk (show w.heap.size ≤ g1 from by rw [e_]; exact HL_g0.out.size); clear BB_g0; have BB_g0 := n_g0; clear n_g0; have BB_g1 := Aside0.mk b_; clear e_ b_ l_) | ((with_reducible refine gate_callee (f := 48) rfl ?_); refine gl 6 Try.func48 #[.func (.func 78) #[] #[.pointer (some ⟨g0, 0, none⟩), .pointer (some ⟨g1, 0, none⟩)]] ?_; refine proof_Acyclic.look k a0_0 A0_1 c0_1 l0_1 A1 c1 l1 r  w _ g0 g1 HR0_1.out HC0_1.out HR1.out HC1.out HL_g1.out BB_g0.out GG_g0.out BB_g1.out GG_g1.out m_g0_g1.out A_.out (fun w4 l4 => ⟨_, rfl, ?_⟩); have L4 := Aside0.mk l4; clear l4))
  go_ret
  exact ⟨by first | rfl | (simp; done), L4.out⟩

/-! ### compassref11_Place: function 79 -/
def compassref11_Place.l0 : Nat → List Int → Int → Int → Option (Int)
  | 0, _, _, _ => none
  | k + 1, x0, x1, x5 => if x5 < (x0.length : Int) then (if 0 ≤ x5 then (if (rd x0 x5) = x1 then (some x5) else (compassref11_Place.l0 k x0 x1 (wrap64 (x5 + 1)))) else (none)) else (some (-1))
def compassref11_Place.f (k : Nat) (l0 : List Int) (a1 : Int) : Option (Int) := compassref11_Place.l0 k l0 a1 0
end Go.Proofs.Ytkdoihcjhccliaa.Q
