-- PRINTED by print.py (a twelfth state) out of the translation. Not trusted: Lean checks it.
import Derived.Test.YtkdoihcjhccliaaQ0
import Derived.Test.YtkdoihcjhccliaaQ3
import Derived.Test.YtkdoihcjhccliaaQ46
namespace Go.Proofs.Ytkdoihcjhccliaa.Q
open Go.RowKit Go.Proofs.YtkdoihcjhccliaaW.PrintWords Go.Proofs.YtkdoihcjhccliaaW.PrintLast Go.Proofs.YtkdoihcjhccliaaW.PrintMore
attribute [local go_sem] dF dG eG eH cz cB dH dI   -- for this text's walks alone
set_option linter.unusedVariables false
set_option linter.unusedSimpArgs false

/-! ### GIVEN: jy: function 28 -/
def jy.f (k : Nat) (ay : Int) (ae : List S98) (l1 : List Bool) : Option (Int) := aZ.f k ay ae l1
theorem jy.look (k : Nat) (ay : Int) (bX : Option Addr) (bN : Nat) (ae : List S98) (A1 : Option Addr) (c1 : Nat) (l1 : List Bool) (c : Int)  (w W : World) (g0 g1 : Nat) (dB : Kd.C k98 w bX ae.length ae) (dC : ae.length ≤ bN) (hr1 : Kd.C Kd.bool w A1 l1.length l1) (hc1 : l1.length ≤ c1) (hB : Below w.heap.size w W) (b0 : W.heap[g0]? = some (.cells #[.int .i64 ay, .slice bX ae.length bN] 24 (0, 0))) (e0 : w.heap.size ≤ g0) (b1 : W.heap[g1]? = some (.cells #[.slice A1 l1.length c1] 26 (0, 0))) (e1 : w.heap.size ≤ g1) (SN : g0 ≠ g1) (H : aZ.f k ay ae l1  = some c) {R : Ending → World → Prop}
    (hR : ∀ w4, Below w.heap.size w w4 → R (.returned (.int .i64 c)) w4) (hr_ : c = 0 := by first | rfl | assumption | omega) : Calls Try.prog 48 #[.func (.func 69) #[] #[.pointer (some ⟨g0, 0, none⟩), .pointer (some ⟨g1, 0, none⟩)]] W R := by
  refine pY.any (G := fun W4 => Below w.heap.size w W4) c Try.func69 (by kernel_rfl) rfl ((aZ.calls k ay bX bN ae A1 c1 l1  c  w (W.alloc (.cells #[.int .i64 0] 30)) g0 g1 W.heap.size dB dC hr1 hc1 (fE hB _) (bg b0 _) e0 (bg b1 _) e1 (wV W _) hB.size SN (Nat.ne_of_lt (eB b0)) (Nat.ne_of_lt (eB b1)) H).mono fun e W4 h_ => ?_) (fun w' w'' h_ k_ => ?_)
  · obtain ⟨x0, x2, x3⟩ := h_; exact ⟨x0, x2, x3⟩
  · have x3 := h_; exact hR w'' (x3.trans (k_.mono hB.size))
set_option maxHeartbeats 2000000 in
set_option maxRecDepth 100000 in
theorem jy.calls (k : Nat) (ay : Int) (bX : Option Addr) (bN : Nat) (ae : List S98) (A1 : Option Addr) (c1 : Nat) (l1 : List Bool) (r : Int) (w : World) (dB : Kd.C k98 w bX ae.length ae) (dC : ae.length ≤ bN) (hr1 : Kd.C Kd.bool w A1 l1.length l1) (hc1 : l1.length ≤ c1) (h : jy.f k ay ae l1 = some r) (hr_ : r = 0 := by first | rfl | assumption | omega) :
    Calls Try.prog 28 #[.agg #[.int .i64 ay, .slice bX ae.length bN], .slice A1 l1.length c1] w fun e w' => e = .returned (.int .i64 r) ∧ Below w.heap.size w w' := by
  have H : aZ.f k ay ae l1 = some r := h
  have A_ := ag.mk H
  clear h H
  have bU := ag.mk dB
  have eU := ag.mk dC
  clear dB dC
  have HR1 := ag.mk hr1
  have HC1 := ag.mk hc1
  clear hr1 hc1
  have hmf : ∀ (fn : Fn) (first cap : Array Value) (w : World), (Instr.makeFunc fn first cap).run Try.prog w = .ok (.func fn first cap) w := fun _ _ _ _ => rfl
  have hu24 := Try.underlying24
  go_enter Try.func28, Try.ntmps28
  go_wp2_with (first | ((with_reducible refine aC (N := 2) rfl ?_); refine bxe 2 #[.int .i64 ay, .slice bX ae.length bN] 24 ?_; intro g0 e_ w0_ b_ l_; have HL_g0 := ag.mk (show Below w.heap.size w w0_ from l_); have GG_g0 := ag.mk (show w.heap.size ≤ g0 from by rw [e_]; exact Nat.le_refl _); have BB_g0 := ag.mk b_; clear e_ b_ l_) | ((with_reducible refine aC (N := 3) rfl ?_); refine bxe 3 #[.slice A1 l1.length c1] 26 ?_; intro g1 e_ w1_ b_ l_; have n_g0 := ag.mk (bI BB_g0.out l_); have m_g0_g1 := ag.mk (show g0 ≠ g1 from by rw [e_]; exact Nat.ne_of_lt (eB BB_g0.out)); have HL_g1 := ag.mk (show Below w.heap.size w w1_ from jw HL_g0.out l_); have GG_g1 := ag.mk (show w.heap.size ≤ g1 from by rw [e_]; exact HL_g0.out.size); clear BB_g0; have BB_g0 := n_g0; clear n_g0; have BB_g1 := ag.mk b_; clear e_ b_ l_) | ((with_reducible refine au (f := 48) rfl ?_); refine gl 6 Try.func48 #[.func (.func 69) #[] #[.pointer (some ⟨g0, 0, none⟩), .pointer (some ⟨g1, 0, none⟩)]] ?_; refine jy.look k ay bX bN ae A1 c1 l1 r  w _ g0 g1 bU.out eU.out HR1.out HC1.out HL_g1.out BB_g0.out GG_g0.out BB_g1.out GG_g1.out m_g0_g1.out A_.out (fun w4 l4 => ⟨_, rfl, ?_⟩); have L4 := ag.mk l4; clear l4))
  go_ret
  exact ⟨by first | rfl | (simp [hr_]; done), L4.out⟩

end Go.Proofs.Ytkdoihcjhccliaa.Q
