-- PRINTED by print.py (a twelfth state) out of the translation. Not trusted: Lean checks it.
import Derived.Test.YtkdoihcjhccliaaQ0
import Derived.Test.YtkdoihcjhccliaaQ3
import Derived.Test.YtkdoihcjhccliaaQ11
import Derived.Test.YtkdoihcjhccliaaQ12
namespace Go.Proofs.Ytkdoihcjhccliaa.Q
open Go.RowKit Go.Proofs.YtkdoihcjhccliaaW.PrintWords Go.Proofs.YtkdoihcjhccliaaW.PrintLast Go.Proofs.YtkdoihcjhccliaaW.PrintMore
attribute [local go_sem] dF dG eG eH cz cB dH dI   -- for this text's walks alone
set_option linter.unusedVariables false
set_option linter.unusedSimpArgs false

/-! ### GIVEN: fK: function 22 -/
def fK.f (k : Nat) (ay : Int) (ae : List S98) (dV : List Int) (iB : List Int) (lQ : List Int) : Option (Int × Int) := (aV.f k ay ae dV iB lQ 0).bind fun t => some (t.2, t.1)
theorem fK.look (k : Nat) (ay : Int) (bX : Option Addr) (bN : Nat) (ae : List S98) (pz : Option Addr) (oz : Nat) (dV : List Int) (nZ : Option Addr) (og : Nat) (iB : List Int) (wI : Option Addr) (wJ : Nat) (lQ : List Int) (c : Int) (v0 : Int) (w W : World) (g0 g1 g2 : Nat) (dB : Kd.C k98 w bX ae.length ae) (dC : ae.length ≤ bN) (qb : Kd.C (Kd.int .i64) w pz dV.length dV) (qc : dV.length ≤ oz) (qd : Kd.C (Kd.int .i64) w nZ iB.length iB) (qf : iB.length ≤ og) (xc : Kd.C (Kd.int .i64) w wI lQ.length lQ) (xg : lQ.length ≤ wJ) (hB : Below w.heap.size w W) (b0 : W.heap[g0]? = some (.cells #[.int .i64 ay, .slice bX ae.length bN] 24 (0, 0))) (e0 : w.heap.size ≤ g0) (b1 : W.heap[g1]? = some (.cells #[.slice pz dV.length oz, .slice nZ iB.length og, .slice wI lQ.length wJ] 44 (0, 0))) (e1 : w.heap.size ≤ g1) (b2 : W.heap[g2]? = some (.cells #[.int .i64 0] 2 (0, 0))) (e2 : w.heap.size ≤ g2) (SN : g0 ≠ g1) (Vz : g0 ≠ g2) (VA : g1 ≠ g2) (H : aV.f k ay ae dV iB lQ 0 = some (c, v0)) {R : Ending → World → Prop}
    (hR : ∀ w4, w4.heap[g2]? = some (.cells #[.int .i64 v0] 2 (0, 0)) → Below w.heap.size w w4 → R (.returned (.int .i64 c)) w4) (hr_ : c = 0 := by first | rfl | assumption | omega) : Calls Try.prog 48 #[.func (.func 60) #[] #[.pointer (some ⟨g0, 0, none⟩), .pointer (some ⟨g1, 0, none⟩), .pointer (some ⟨g2, 0, none⟩)]] W R := by
  refine pY.any (G := fun W4 => W4.heap[g2]? = some (.cells #[.int .i64 v0] 2 (0, 0)) ∧ Below w.heap.size w W4) c Try.func60 (by kernel_rfl) rfl ((aV.calls k ay bX bN ae pz oz dV nZ og iB wI wJ lQ 0 c v0 w (W.alloc (.cells #[.int .i64 0] 30)) g0 g1 g2 W.heap.size dB dC qb qc qd qf xc xg (fE hB _) (bg b0 _) e0 (bg b1 _) e1 (bg b2 _) e2 (wV W _) hB.size SN Vz (Nat.ne_of_lt (eB b0)) VA (Nat.ne_of_lt (eB b1)) (Nat.ne_of_lt (eB b2)) H).mono fun e W4 h_ => ?_) (fun w' w'' h_ k_ => ?_)
  · obtain ⟨x0, x1, x2, x3⟩ := h_; exact ⟨x0, x2, x1, x3⟩
  · obtain ⟨x1, x3⟩ := h_; exact hR w'' ((k_.block _ (eB b2)).trans x1) (x3.trans (k_.mono hB.size))
set_option maxHeartbeats 2000000 in
set_option maxRecDepth 100000 in
theorem fK.calls (k : Nat) (ay : Int) (bX : Option Addr) (bN : Nat) (ae : List S98) (pz : Option Addr) (oz : Nat) (dV : List Int) (nZ : Option Addr) (og : Nat) (iB : List Int) (wI : Option Addr) (wJ : Nat) (lQ : List Int) (r1 : Int) (r2 : Int) (w : World) (dB : Kd.C k98 w bX ae.length ae) (dC : ae.length ≤ bN) (qb : Kd.C (Kd.int .i64) w pz dV.length dV) (qc : dV.length ≤ oz) (qd : Kd.C (Kd.int .i64) w nZ iB.length iB) (qf : iB.length ≤ og) (xc : Kd.C (Kd.int .i64) w wI lQ.length lQ) (xg : lQ.length ≤ wJ) (h : fK.f k ay ae dV iB lQ = some (r1, r2)) (hr_ : r2 = 0 := by first | rfl | assumption | omega) :
    Calls Try.prog 22 #[.agg #[.int .i64 ay, .slice bX ae.length bN], .agg #[.slice pz dV.length oz, .slice nZ iB.length og, .slice wI lQ.length wJ]] w fun e w' => e = .returned (.tuple #[.int .i64 r1, .int .i64 r2]) ∧ Below w.heap.size w w' := by
  obtain ⟨⟨t1, t2⟩, H, e⟩ := Option.bind_eq_some_iff.mp h
  simp only [Option.some.injEq, Prod.mk.injEq] at e
  obtain ⟨rfl, rfl⟩ := e
  have A_ := ag.mk H
  clear h H
  have bU := ag.mk dB
  have eU := ag.mk dC
  clear dB dC
  have tX := ag.mk qb
  have Ey := ag.mk qc
  clear qb qc
  have wH := ag.mk qd
  have Aa := ag.mk qf
  clear qd qf
  have EI := ag.mk xc
  have EJ := ag.mk xg
  clear xc xg
  have hmf : ∀ (fn : Fn) (first cap : Array Value) (w : World), (Instr.makeFunc fn first cap).run Try.prog w = .ok (.func fn first cap) w := fun _ _ _ _ => rfl
  have hu24 := Try.underlying24
  have hu44 := Try.underlying44
  go_enter Try.func22, Try.ntmps22
  go_wp2_with (first | ((with_reducible refine aC (N := 2) rfl ?_); refine bxe 2 #[.int .i64 ay, .slice bX ae.length bN] 24 ?_; intro g0 e_ w0_ b_ l_; have HL_g0 := ag.mk (show Below w.heap.size w w0_ from l_); have GG_g0 := ag.mk (show w.heap.size ≤ g0 from by rw [e_]; exact Nat.le_refl _); have BB_g0 := ag.mk b_; clear e_ b_ l_) | ((with_reducible refine aC (N := 3) rfl ?_); refine bxe 3 #[.slice pz dV.length oz, .slice nZ iB.length og, .slice wI lQ.length wJ] 44 ?_; intro g1 e_ w1_ b_ l_; have n_g0 := ag.mk (bI BB_g0.out l_); have m_g0_g1 := ag.mk (show g0 ≠ g1 from by rw [e_]; exact Nat.ne_of_lt (eB BB_g0.out)); have HL_g1 := ag.mk (show Below w.heap.size w w1_ from jw HL_g0.out l_); have GG_g1 := ag.mk (show w.heap.size ≤ g1 from by rw [e_]; exact HL_g0.out.size); clear BB_g0; have BB_g0 := n_g0; clear n_g0; have BB_g1 := ag.mk b_; clear e_ b_ l_) | ((with_reducible refine aC (N := 6) rfl ?_); refine bxe 6 #[.int .i64 0] 2 ?_; intro g2 e_ w2_ b_ l_; have n_g0 := ag.mk (bI BB_g0.out l_); have m_g0_g2 := ag.mk (show g0 ≠ g2 from by rw [e_]; exact Nat.ne_of_lt (eB BB_g0.out)); have n_g1 := ag.mk (bI BB_g1.out l_); have m_g1_g2 := ag.mk (show g1 ≠ g2 from by rw [e_]; exact Nat.ne_of_lt (eB BB_g1.out)); have HL_g2 := ag.mk (show Below w.heap.size w w2_ from jw HL_g1.out l_); have GG_g2 := ag.mk (show w.heap.size ≤ g2 from by rw [e_]; exact HL_g1.out.size); clear BB_g0; have BB_g0 := n_g0; clear n_g0; clear BB_g1; have BB_g1 := n_g1; clear n_g1; have BB_g2 := ag.mk b_; have hz0 := (aH b_ 0).trans rfl; have hy0 := bG b_ 0; clear e_ b_ l_) | ((with_reducible refine au (f := 48) rfl ?_); refine gl 9 Try.func48 #[.func (.func 60) #[] #[.pointer (some ⟨g0, 0, none⟩), .pointer (some ⟨g1, 0, none⟩), .pointer (some ⟨g2, 0, none⟩)]] ?_; refine fK.look k ay bX bN ae pz oz dV nZ og iB wI wJ lQ t1 t2 w _ g0 g1 g2 bU.out eU.out tX.out Ey.out wH.out Aa.out EI.out EJ.out (bR HL_g2.out GG_g2.out) (dY BB_g0.out m_g0_g2.out _) GG_g0.out (dY BB_g1.out m_g1_g2.out _) GG_g1.out (rC BB_g2.out 0 _ rfl) GG_g2.out m_g0_g1.out m_g0_g2.out m_g1_g2.out A_.out (fun w4 b4 l4 => ⟨_, rfl, ?_⟩); have hz40 := (aH b4 0).trans rfl; have hy40 := bG b4 0; have L4 := ag.mk l4; clear l4 b4))
  go_ret2
  exact ⟨by first | rfl | (simp [hr_]; done), L4.out⟩

end Go.Proofs.Ytkdoihcjhccliaa.Q
