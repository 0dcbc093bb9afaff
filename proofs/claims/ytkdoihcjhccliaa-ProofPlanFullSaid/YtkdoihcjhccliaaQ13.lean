-- PRINTED by print.py (a twelfth state) out of the translation. Not trusted: Lean checks it.
import Derived.Test.YtkdoihcjhccliaaQ0
import Derived.Test.YtkdoihcjhccliaaQ3
import Derived.Test.YtkdoihcjhccliaaQ11
import Derived.Test.YtkdoihcjhccliaaQ12
namespace Go.Proofs.Ytkdoihcjhccliaa.Q
open Go.RowKit Go.Proofs.YtkdoihcjhccliaaW.PrintWords Go.Proofs.YtkdoihcjhccliaaW.PrintLast Go.Proofs.YtkdoihcjhccliaaW.PrintMore
attribute [local go_sem] max2_int min2_int max_two min_two max_three min_three max_four min_four   -- for this text's walks alone
set_option linter.unusedVariables false
set_option linter.unusedSimpArgs false

/-! ### GIVEN: proof_Cheapest: function 22 -/
def proof_Cheapest.f (k : Nat) (a0_0 : Int) (l0_1 : List S98) (l1_0 : List Int) (l1_1 : List Int) (l1_2 : List Int) : Option (Int × Int) := (proof_Cheapest_1.f k a0_0 l0_1 l1_0 l1_1 l1_2 0).bind fun t => some (t.2, t.1)
theorem proof_Cheapest.look (k : Nat) (a0_0 : Int) (A0_1 : Option Addr) (c0_1 : Nat) (l0_1 : List S98) (A1_0 : Option Addr) (c1_0 : Nat) (l1_0 : List Int) (A1_1 : Option Addr) (c1_1 : Nat) (l1_1 : List Int) (A1_2 : Option Addr) (c1_2 : Nat) (l1_2 : List Int) (c : Int) (v0 : Int) (w W : World) (g0 g1 g2 : Nat) (hr0_1 : Kd.C k98 w A0_1 l0_1.length l0_1) (hc0_1 : l0_1.length ≤ c0_1) (hr1_0 : Kd.C (Kd.int .i64) w A1_0 l1_0.length l1_0) (hc1_0 : l1_0.length ≤ c1_0) (hr1_1 : Kd.C (Kd.int .i64) w A1_1 l1_1.length l1_1) (hc1_1 : l1_1.length ≤ c1_1) (hr1_2 : Kd.C (Kd.int .i64) w A1_2 l1_2.length l1_2) (hc1_2 : l1_2.length ≤ c1_2) (hB : Below w.heap.size w W) (b0 : W.heap[g0]? = some (.cells #[.int .i64 a0_0, .slice A0_1 l0_1.length c0_1] 24 (0, 0))) (e0 : w.heap.size ≤ g0) (b1 : W.heap[g1]? = some (.cells #[.slice A1_0 l1_0.length c1_0, .slice A1_1 l1_1.length c1_1, .slice A1_2 l1_2.length c1_2] 44 (0, 0))) (e1 : w.heap.size ≤ g1) (b2 : W.heap[g2]? = some (.cells #[.int .i64 0] 2 (0, 0))) (e2 : w.heap.size ≤ g2) (n0_1 : g0 ≠ g1) (n0_2 : g0 ≠ g2) (n1_2 : g1 ≠ g2) (H : proof_Cheapest_1.f k a0_0 l0_1 l1_0 l1_1 l1_2 0 = some (c, v0)) {R : Ending → World → Prop}
    (hR : ∀ w4, w4.heap[g2]? = some (.cells #[.int .i64 v0] 2 (0, 0)) → Below w.heap.size w w4 → R (.returned (.int .i64 c)) w4) : Calls Try.prog 48 #[.func (.func 60) #[] #[.pointer (some ⟨g0, 0, none⟩), .pointer (some ⟨g1, 0, none⟩), .pointer (some ⟨g2, 0, none⟩)]] W R := by
  refine proof_look.any (G := fun W4 => W4.heap[g2]? = some (.cells #[.int .i64 v0] 2 (0, 0)) ∧ Below w.heap.size w W4) c Try.func60 (by kernel_rfl) rfl ((proof_Cheapest_1.calls k a0_0 A0_1 c0_1 l0_1 A1_0 c1_0 l1_0 A1_1 c1_1 l1_1 A1_2 c1_2 l1_2 0 c v0 w (W.alloc (.cells #[.int .i64 0] 30)) g0 g1 g2 W.heap.size hr0_1 hc0_1 hr1_0 hc1_0 hr1_1 hc1_1 hr1_2 hc1_2 (below_alloc hB _) (blk_alloc b0 _) e0 (blk_alloc b1 _) e1 (blk_alloc b2 _) e2 (blk_new W _) hB.size n0_1 n0_2 (Nat.ne_of_lt (blk_lt b0)) n1_2 (Nat.ne_of_lt (blk_lt b1)) (Nat.ne_of_lt (blk_lt b2)) H).mono fun e W4 h_ => ?_) (fun w' w'' h_ k_ => ?_)
  · obtain ⟨x0, x1, x2, x3⟩ := h_; exact ⟨x0, x2, x1, x3⟩
  · obtain ⟨x1, x3⟩ := h_; exact hR w'' ((k_.block _ (blk_lt b2)).trans x1) (x3.trans (k_.mono hB.size))
set_option maxHeartbeats 2000000 in
set_option maxRecDepth 100000 in
theorem proof_Cheapest.calls (k : Nat) (a0_0 : Int) (A0_1 : Option Addr) (c0_1 : Nat) (l0_1 : List S98) (A1_0 : Option Addr) (c1_0 : Nat) (l1_0 : List Int) (A1_1 : Option Addr) (c1_1 : Nat) (l1_1 : List Int) (A1_2 : Option Addr) (c1_2 : Nat) (l1_2 : List Int) (r1 : Int) (r2 : Int) (w : World) (hr0_1 : Kd.C k98 w A0_1 l0_1.length l0_1) (hc0_1 : l0_1.length ≤ c0_1) (hr1_0 : Kd.C (Kd.int .i64) w A1_0 l1_0.length l1_0) (hc1_0 : l1_0.length ≤ c1_0) (hr1_1 : Kd.C (Kd.int .i64) w A1_1 l1_1.length l1_1) (hc1_1 : l1_1.length ≤ c1_1) (hr1_2 : Kd.C (Kd.int .i64) w A1_2 l1_2.length l1_2) (hc1_2 : l1_2.length ≤ c1_2) (h : proof_Cheapest.f k a0_0 l0_1 l1_0 l1_1 l1_2 = some (r1, r2)) :
    Calls Try.prog 22 #[.agg #[.int .i64 a0_0, .slice A0_1 l0_1.length c0_1], .agg #[.slice A1_0 l1_0.length c1_0, .slice A1_1 l1_1.length c1_1, .slice A1_2 l1_2.length c1_2]] w fun e w' => e = .returned (.tuple #[.int .i64 r1, .int .i64 r2]) ∧ Below w.heap.size w w' := by
  obtain ⟨⟨t1, t2⟩, H, e⟩ := Option.bind_eq_some_iff.mp h
  simp only [Option.some.injEq, Prod.mk.injEq] at e
  obtain ⟨rfl, rfl⟩ := e
  have A_ := Aside0.mk H
  clear h H
  have HR0_1 := Aside0.mk hr0_1
  have HC0_1 := Aside0.mk hc0_1
  clear hr0_1 hc0_1
  have HR1_0 := Aside0.mk hr1_0
  have HC1_0 := Aside0.mk hc1_0
  clear hr1_0 hc1_0
  have HR1_1 := Aside0.mk hr1_1
  have HC1_1 := Aside0.mk hc1_1
  clear hr1_1 hc1_1
  have HR1_2 := Aside0.mk hr1_2
  have HC1_2 := Aside0.mk hc1_2
  clear hr1_2 hc1_2
  have hmf : ∀ (fn : Fn) (first cap : Array Value) (w : World), (Instr.makeFunc fn first cap).run Try.prog w = .ok (.func fn first cap) w := fun _ _ _ _ => rfl
  have hu24 := Try.underlying24
  have hu44 := Try.underlying44
  go_enter Try.func22, Try.ntmps22
  go_wp2_with (first | ((with_reducible refine gate_dst (N := 2) rfl ?_); refine bxe 2 #[.int .i64 a0_0, .slice A0_1 l0_1.length c0_1] 24 ?_; intro g0 e_ w0_ b_ l_; have HL_g0 := Aside0.mk (show Below w.heap.size w w0_ from l_); have GG_g0 := Aside0.mk (show w.heap.size ≤ g0 from by rw [e_]; exact Nat.le_refl _); have BB_g0 := Aside0.mk b_; clear e_ b_ l_) | ((with_reducible refine gate_dst (N := 3) rfl ?_); refine bxe 3 #[.slice A1_0 l1_0.length c1_0, .slice A1_1 l1_1.length c1_1, .slice A1_2 l1_2.length c1_2] 44 ?_; intro g1 e_ w1_ b_ l_; have n_g0 := Aside0.mk (blk_below BB_g0.out l_); have m_g0_g1 := Aside0.mk (show g0 ≠ g1 from by rw [e_]; exact Nat.ne_of_lt (blk_lt BB_g0.out)); have HL_g1 := Aside0.mk (show Below w.heap.size w w1_ from below_step HL_g0.out l_); have GG_g1 := Aside0.mk (show w.heap.size ≤ g1 from by rw [e_]; exact HL_g0.out.size); clear BB_g0; have BB_g0 := n_g0; clear n_g0; have BB_g1 := Aside0.mk b_; clear e_ b_ l_) | ((with_reducible refine gate_dst (N := 6) rfl ?_); refine bxe 6 #[.int .i64 0] 2 ?_; intro g2 e_ w2_ b_ l_; have n_g0 := Aside0.mk (blk_below BB_g0.out l_); have m_g0_g2 := Aside0.mk (show g0 ≠ g2 from by rw [e_]; exact Nat.ne_of_lt (blk_lt BB_g0.out)); have n_g1 := Aside0.mk (blk_below BB_g1.out l_); have m_g1_g2 := Aside0.mk (show g1 ≠ g2 from by rw [e_]; exact Nat.ne_of_lt (blk_lt BB_g1.out)); have HL_g2 := Aside0.mk (show Below w.heap.size w w2_ from below_step HL_g1.out l_); have GG_g2 := Aside0.mk (show w.heap.size ≤ g2 from by rw [e_]; exact HL_g1.out.size); clear BB_g0; have BB_g0 := n_g0; clear n_g0; clear BB_g1; have BB_g1 := n_g1; clear n_g1; have BB_g2 := Aside0.mk b_; have hz0 := (blk_cell b_ 0).trans rfl; have hy0 := blk_frozen b_ 0; clear e_ b_ l_) | ((with_reducible refine gate_callee (f := 48) rfl ?_); refine gl 9 Try.func48 #[.func (.func 60) #[] #[.pointer (some ⟨g0, 0, none⟩), .pointer (some ⟨g1, 0, none⟩), .pointer (some ⟨g2, 0, none⟩)]] ?_; refine proof_Cheapest.look k a0_0 A0_1 c0_1 l0_1 A1_0 c1_0 l1_0 A1_1 c1_1 l1_1 A1_2 c1_2 l1_2 t1 t2 w _ g0 g1 g2 HR0_1.out HC0_1.out HR1_0.out HC1_0.out HR1_1.out HC1_1.out HR1_2.out HC1_2.out (below_set HL_g2.out GG_g2.out) (blk_far BB_g0.out m_g0_g2.out _) GG_g0.out (blk_far BB_g1.out m_g1_g2.out _) GG_g1.out (blk_put BB_g2.out 0 _ rfl) GG_g2.out m_g0_g1.out m_g0_g2.out m_g1_g2.out A_.out (fun w4 b4 l4 => ⟨_, rfl, ?_⟩); have hz40 := (blk_cell b4 0).trans rfl; have hy40 := blk_frozen b4 0; have L4 := Aside0.mk l4; clear l4 b4))
  go_ret2
  exact ⟨by first | rfl | (simp; done), L4.out⟩

end Go.Proofs.Ytkdoihcjhccliaa.Q
