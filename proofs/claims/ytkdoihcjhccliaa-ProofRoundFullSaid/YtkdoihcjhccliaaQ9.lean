import Derived.Test.YtkdoihcjhccliaaQ0
import Derived.Test.YtkdoihcjhccliaaQ3
import Derived.Test.YtkdoihcjhccliaaQ8
namespace Go.Proofs.Ytkdoihcjhccliaa.Q
open Go.RowKit Go.Proofs.YtkdoihcjhccliaaW.PrintWords Go.Proofs.YtkdoihcjhccliaaW.PrintLast Go.Proofs.YtkdoihcjhccliaaW.PrintMore
attribute [local go_sem] dF dG eG eH cz cB dH dI   -- for this text's walks alone
set_option linter.unusedVariables false
set_option linter.unusedSimpArgs false

/-! ### GIVEN: iW: function 16 -/
def iW.f (k : Nat) (ay : Int) (ae : List S98) (mJ : Int) (om : Int) (lQ : List Int) (tQ : List Bool) : Option (Int × Int) := (iO.f k ay ae mJ om lQ tQ 0).bind fun t => some (t.2, t.1)
theorem iW.look (k : Nat) (ay : Int) (bX : Option Addr) (bN : Nat) (ae : List S98) (mJ : Int) (om : Int) (wI : Option Addr) (wJ : Nat) (lQ : List Int) (J4 : Option Addr) (IP : Nat) (tQ : List Bool) (c : Int) (v0 : Int) (w W : World) (g0 g1 g2 : Nat) (dB : Kd.C k98 w bX ae.length ae) (dC : ae.length ≤ bN) (xc : Kd.C (Kd.int .i64) w wI lQ.length lQ) (xg : lQ.length ≤ wJ) (IQ : Kd.C Kd.bool w J4 tQ.length tQ) (IR : tQ.length ≤ IP) (hB : Below w.heap.size w W) (b0 : W.heap[g0]? = some (.cells #[.int .i64 ay, .slice bX ae.length bN] 24 (0, 0))) (e0 : w.heap.size ≤ g0) (b1 : W.heap[g1]? = some (.cells #[.int .i64 mJ, .int .i64 om, .slice wI lQ.length wJ, .slice J4 tQ.length IP] 28 (0, 0))) (e1 : w.heap.size ≤ g1) (b2 : W.heap[g2]? = some (.cells #[.int .i64 0] 2 (0, 0))) (e2 : w.heap.size ≤ g2) (SN : g0 ≠ g1) (Vz : g0 ≠ g2) (VA : g1 ≠ g2) (H : iO.f k ay ae mJ om lQ tQ 0 = some (c, v0)) {R : Ending → World → Prop}
    (hR : ∀ w4, w4.heap[g2]? = some (.cells #[.int .i64 v0] 2 (0, 0)) → Below w.heap.size w w4 → R (.returned (.int .i64 c)) w4) : Calls Try.prog 48 #[.func (.func 49) #[] #[.pointer (some ⟨g0, 0, none⟩), .pointer (some ⟨g1, 0, none⟩), .pointer (some ⟨g2, 0, none⟩)]] W R := by
  refine pY.any (G := fun W4 => W4.heap[g2]? = some (.cells #[.int .i64 v0] 2 (0, 0)) ∧ Below w.heap.size w W4) c Try.func49 (by kernel_rfl) rfl ((iO.calls k ay bX bN ae mJ om wI wJ lQ J4 IP tQ 0 c v0 w (W.alloc (.cells #[.int .i64 0] 30)) g0 g1 g2 W.heap.size dB dC xc xg IQ IR (fE hB _) (bg b0 _) e0 (bg b1 _) e1 (bg b2 _) e2 (wV W _) hB.size SN Vz (Nat.ne_of_lt (eB b0)) VA (Nat.ne_of_lt (eB b1)) (Nat.ne_of_lt (eB b2)) H).mono fun e W4 h_ => ?_) (fun w' w'' h_ k_ => ?_)
  · obtain ⟨x0, x1, x2, x3⟩ := h_; exact ⟨x0, x2, x1, x3⟩
  · obtain ⟨x1, x3⟩ := h_; exact hR w'' ((k_.block _ (eB b2)).trans x1) (x3.trans (k_.mono hB.size))
set_option maxHeartbeats 2000000 in
set_option maxRecDepth 100000 in
theorem iW.calls (k : Nat) (ay : Int) (bX : Option Addr) (bN : Nat) (ae : List S98) (mJ : Int) (om : Int) (wI : Option Addr) (wJ : Nat) (lQ : List Int) (J4 : Option Addr) (IP : Nat) (tQ : List Bool) (r1 : Int) (r2 : Int) (w : World) (dB : Kd.C k98 w bX ae.length ae) (dC : ae.length ≤ bN) (xc : Kd.C (Kd.int .i64) w wI lQ.length lQ) (xg : lQ.length ≤ wJ) (IQ : Kd.C Kd.bool w J4 tQ.length tQ) (IR : tQ.length ≤ IP) (h : iW.f k ay ae mJ om lQ tQ = some (r1, r2)) :
    Calls Try.prog 16 #[.agg #[.int .i64 ay, .slice bX ae.length bN], .agg #[.int .i64 mJ, .int .i64 om, .slice wI lQ.length wJ, .slice J4 tQ.length IP]] w fun e w' => e = .returned (.tuple #[.int .i64 r1, .int .i64 r2]) ∧ Below w.heap.size w w' := by
  obtain ⟨⟨t1, t2⟩, H, e⟩ := Option.bind_eq_some_iff.mp h
  simp only [Option.some.injEq, Prod.mk.injEq] at e
  obtain ⟨rfl, rfl⟩ := e; have A_ := ag.mk H; clear h H; have bU := ag.mk dB; have eU := ag.mk dC; clear dB dC; have EI := ag.mk xc; have EJ := ag.mk xg; clear xc xg; have AB := ag.mk IQ; have Ta := ag.mk IR; clear IQ IR
  have hmf : ∀ (fn : Fn) (first cap : Array Value) (w : World), (Instr.makeFunc fn first cap).run Try.prog w = .ok (.func fn first cap) w := fun _ _ _ _ => rfl
  have hu24 := Try.underlying24; have hu28 := Try.underlying28
  go_enter Try.func16, Try.ntmps16
  go_wp2_with (first | ((with_reducible refine aC (N := 2) rfl ?_); refine bxe 2 #[.int .i64 ay, .slice bX ae.length bN] 24 ?_; intro g0 e_ w0_ b_ l_; have HL_g0 := ag.mk (show Below w.heap.size w w0_ from l_); have GG_g0 := ag.mk (show w.heap.size ≤ g0 from by rw [e_]; exact Nat.le_refl _); have BB_g0 := ag.mk b_; clear e_ b_ l_) | ((with_reducible refine aC (N := 3) rfl ?_); refine bxe 3 #[.int .i64 mJ, .int .i64 om, .slice wI lQ.length wJ, .slice J4 tQ.length IP] 28 ?_; intro g1 e_ w1_ b_ l_; have n_g0 := ag.mk (bI BB_g0.out l_); have m_g0_g1 := ag.mk (show g0 ≠ g1 from by rw [e_]; exact Nat.ne_of_lt (eB BB_g0.out)); have HL_g1 := ag.mk (show Below w.heap.size w w1_ from jw HL_g0.out l_); have GG_g1 := ag.mk (show w.heap.size ≤ g1 from by rw [e_]; exact HL_g0.out.size); clear BB_g0; have BB_g0 := n_g0; clear n_g0; have BB_g1 := ag.mk b_; clear e_ b_ l_) | ((with_reducible refine aC (N := 6) rfl ?_); refine bxe 6 #[.int .i64 0] 2 ?_; intro g2 e_ w2_ b_ l_; have n_g0 := ag.mk (bI BB_g0.out l_); have m_g0_g2 := ag.mk (show g0 ≠ g2 from by rw [e_]; exact Nat.ne_of_lt (eB BB_g0.out)); have n_g1 := ag.mk (bI BB_g1.out l_); have m_g1_g2 := ag.mk (show g1 ≠ g2 from by rw [e_]; exact Nat.ne_of_lt (eB BB_g1.out)); have HL_g2 := ag.mk (show Below w.heap.size w w2_ from jw HL_g1.out l_); have GG_g2 := ag.mk (show w.heap.size ≤ g2 from by rw [e_]; exact HL_g1.out.size); clear BB_g0; have BB_g0 := n_g0; clear n_g0; clear BB_g1; have BB_g1 := n_g1; clear n_g1; have BB_g2 := ag.mk b_; have hz0 := (aH b_ 0).trans rfl; have hy0 := bG b_ 0; clear e_ b_ l_) | ((with_reducible refine au (f := 48) rfl ?_); refine gl 9 Try.func48 #[.func (.func 49) #[] #[.pointer (some ⟨g0, 0, none⟩), .pointer (some ⟨g1, 0, none⟩), .pointer (some ⟨g2, 0, none⟩)]] ?_; refine iW.look k ay bX bN ae mJ om wI wJ lQ J4 IP tQ t1 t2 w _ g0 g1 g2 bU.out eU.out EI.out EJ.out AB.out Ta.out (bR HL_g2.out GG_g2.out) (dY BB_g0.out m_g0_g2.out _) GG_g0.out (dY BB_g1.out m_g1_g2.out _) GG_g1.out (rC BB_g2.out 0 _ rfl) GG_g2.out m_g0_g1.out m_g0_g2.out m_g1_g2.out A_.out (fun w4 b4 l4 => ⟨_, rfl, ?_⟩); have hz40 := (aH b4 0).trans rfl; have hy40 := bG b4 0; have L4 := ag.mk l4; clear l4 b4))
  go_ret2
  exact ⟨by first | rfl | (simp; done), L4.out⟩

/-! ### fe: function 61 -/
def fe.l0 : Nat → Int → List Int → Int → Int → Option (Int)
  | 0, _, _, _, _ => none
  | k + 1, x4, x13, x14, x15 => if x15 < x14 then (if 0 ≤ x15 then (if x15 < (x13.length : Int) then (if (rd x13 x15) ≥ (-1048576) then (if (rd x13 x15) ≤ 1048576 then (fe.l0 k (wrap64 (x4 + (rd x13 x15))) x13 x14 (wrap64 (x15 + 1))) else (some 130)) else (some 130)) else (none)) else (none)) else (if x4 = 0 then (some 0) else (some 130))
def fe.f (k : Nat) (ay : Int) (ae : List (S98)) (l1 : List Int) : Option (Int) := if (l1.length : Int) = ay then (fe.l0 k 0 l1 (l1.length : Int) 0) else (some 130)
set_option maxHeartbeats 8000000 in
set_option maxRecDepth 100000 in
theorem fe.calls (k : Nat) (ay : Int) (bX : Option Addr) (bN : Nat) (ae : List (S98)) (A1 : Option Addr) (c1 : Nat) (l1 : List Int) (r : Int) (w : World) (dB : Kd.C k98 w bX ae.length ae) (dC : ae.length ≤ bN) (hr1 : Kd.C (Kd.int .i64) w A1 l1.length l1) (hc1 : l1.length ≤ c1) (h : fe.f k ay ae l1 = some r) :
    Calls Try.prog 61 #[.agg #[.int .i64 ay, .slice bX ae.length bN], .slice A1 l1.length c1] w fun e w' => oQ r (e = .returned (.tuple #[]) ∧ Below w.heap.size w w') (e = gave r ∧ Below w.heap.size w w') := by
 have hu24 := Try.underlying24; have bU := ak dB; have eU := ak dC; clear dB dC; have HR1 := ak hr1; have HC1 := ak hc1; clear hr1 hc1; have HB := ak (Below.refl w.heap.size w); have H : (if (l1.length : Int) = ay then (fe.l0 k 0 l1 (l1.length : Int) 0) else (some 130)) = some r := h; clear h
 by_cases c3 : (l1.length : Int) = ay
 rotate_left
 ·
  rw [if_neg c3] at H; have c3b := bn2 c3; obtain rfl := Option.some.inj H
  go_enter Try.func61, Try.ntmps61
  go_wp2_with (first | ((with_reducible refine aC (N := 2) rfl ?_); refine bxe 2 #[.int .i64 ay, .slice bX ae.length bN] 24 ?_; intro abW hg w15 hbox hb; have n_ := a4 (bl hb) hbox (gw w hg) (gw w hg); clear HB; obtain ⟨HB, KI, GW145, GE145⟩ := n_; clear hb hbox hg; have ⟨_, _, _, _⟩ := cf2 KI) | ((with_reducible refine au (f := 51) rfl ?_); refine pl 12 Try.func51 #[.bool false, .int .i64 130] ?_; refine (aQ.bad 130 _).mono ?_; rintro e w' ⟨rfl, rfl⟩; refine ⟨_, rfl, ?_⟩; (repeat (first | refine fO ?_ | refine fu ?_)); exact fP rfl (oQ.no da ⟨rfl, lb⟩)))
 rw [if_pos c3] at H; have c3b := be2 c3; clear c3; have A4 := ak (show aQ.f true 130 = some () from rfl); have H' := ak H; clear H
 go_enter Try.func61, Try.ntmps61
 go_wp2_with (first | ((with_reducible refine aC (N := 2) rfl ?_); refine bxe 2 #[.int .i64 ay, .slice bX ae.length bN] 24 ?_; intro abW hg w5 hbox hb; have n_ := a4 (bl hb) hbox (gw w hg) (gw w hg); clear HB; obtain ⟨HB, KI, GW145, GE145⟩ := n_; clear hb hbox hg; have ⟨_, _, _, _⟩ := cf2 KI) | ((with_reducible refine au (f := 51) rfl ?_); refine gl 12 Try.func51 #[.bool true, .int .i64 130] ?_; (with_reducible refine (aQ.calls true 130  _ A4.out).mono ?_); rintro e w' ⟨rfl, ⟨nd, rfl⟩⟩; refine ⟨_, rfl, ?_⟩))
 go_loopg [4, 15] k (fun kq v4 v15 w' => ∃ (kJ : Int) (AC : Int), v4 = .int .i64 kJ ∧ v15 = .int .i64 AC ∧ ag (fe.l0 kq kJ l1 (l1.length : Int) AC = some r) ∧ ag (kq ≤ k) ∧ ag (w'.heap[abW]? = some (.cells #[.int .i64 ay, (.slice bX ae.length bN)] 24 (0, 0))) ∧ ag (Below w.heap.size w w'))
 case atStart => exact ⟨(0), (0), sr, sr, H', ⟨Nat.le_refl _⟩, xb KI, ⟨lb⟩⟩
 clear H'; obtain ⟨kJ, AC, rfl, rfl, HA, HK1, KI, HB⟩ := hrel
 cases gk with
 | zero => exact absurd HA.out (by simp [fe.l0])
 | succ k1 => ?_
 have H := HA.out; clear HA
 simp only [fe.l0] at H
 by_cases c7 : AC < (l1.length : Int)
 rotate_left
 ·
  rw [if_neg c7] at H; have c7b0 := decide_eq_false c7; clear c7
  by_cases c13 : kJ = 0
  rotate_left
  ·
   rw [if_neg c13] at H; have c13b := bn2 c13; obtain rfl := Option.some.inj H
   go_wp2_with (first | ((with_reducible refine au (f := 51) rfl ?_); refine pl 32 Try.func51 #[.bool false, .int .i64 130] ?_; refine (aQ.bad 130 _).mono ?_; rintro e w' ⟨rfl, rfl⟩; refine ⟨_, rfl, ?_⟩; (repeat (first | refine fO ?_ | refine fu ?_)); exact fP rfl (oQ.no da ⟨rfl, lb⟩)))
  rw [if_pos c13] at H; have c13b := be2 c13; clear c13; have A14 := ak (show aQ.f true 130 = some () from rfl); obtain rfl := Option.some.inj H
  go_wp2_with (first | ((with_reducible refine au (f := 51) rfl ?_); refine gl 32 Try.func51 #[.bool true, .int .i64 130] ?_; (with_reducible refine (aQ.calls true 130  _ A14.out).mono ?_); rintro e w' ⟨rfl, ⟨nd, rfl⟩⟩; refine ⟨_, rfl, ?_⟩))
  first | go_end0 | ((try simp only [Exit.inBlock, Exit.then]); refine bodyPost_ret (results_none rfl _ _ _) rfl ?_)
  exact oQ.ok ⟨er, lb⟩
 rw [if_pos c7] at H; have c7b0 := decide_eq_true c7; clear c7; replace H := if2 H; obtain ⟨c8b0, c9b0, H⟩ := H
 by_cases c10 : (rd l1 AC) ≥ (-1048576)
 rotate_left
 ·
  rw [if_neg c10] at H; have c10b0 := decide_eq_false c10; clear c10; obtain rfl := Option.some.inj H; obtain ⟨p146, q146, abX, abY, uM⟩ := wq (Kd.bB HR1.out AC); cases abY
  (try replace uM := hbc HB uM)
  go_wp2_with (first | ((with_reducible refine au (f := 51) rfl ?_); refine pl 25 Try.func51 #[.bool false, .int .i64 130] ?_; refine (aQ.bad 130 _).mono ?_; rintro e w' ⟨rfl, rfl⟩; refine ⟨_, rfl, ?_⟩; (repeat (first | refine fO ?_ | refine fu ?_)); exact fP rfl (oQ.no da ⟨rfl, lb⟩)))
 rw [if_pos c10] at H; have c10b0 := decide_eq_true c10; clear c10
 by_cases c11 : (rd l1 AC) ≤ 1048576
 rotate_left
 ·
  rw [if_neg c11] at H; have c11b0 := decide_eq_false c11; clear c11; obtain rfl := Option.some.inj H; obtain ⟨p146, q146, abX, abY, uM⟩ := wq (Kd.bB HR1.out AC); cases abY
  (try replace uM := hbc HB uM)
  go_wp2_with (first | ((with_reducible refine au (f := 51) rfl ?_); refine pl 25 Try.func51 #[.bool false, .int .i64 130] ?_; refine (aQ.bad 130 _).mono ?_; rintro e w' ⟨rfl, rfl⟩; refine ⟨_, rfl, ?_⟩; (repeat (first | refine fO ?_ | refine fu ?_)); exact fP rfl (oQ.no da ⟨rfl, lb⟩)))
 rw [if_pos c11] at H; have c11b0 := decide_eq_true c11; clear c11; have A12 := ak (show aQ.f true 130 = some () from rfl); have H' := ak H; clear H; obtain ⟨p146, q146, abX, abY, uM⟩ := wq (Kd.bB HR1.out AC); cases abY
 (try replace uM := hbc HB uM)
 go_wp2_with (first | ((with_reducible refine au (f := 51) rfl ?_); refine gl 25 Try.func51 #[.bool true, .int .i64 130] ?_; (with_reducible refine (aQ.calls true 130  _ A12.out).mono ?_); rintro e w' ⟨rfl, ⟨nd, rfl⟩⟩; refine ⟨_, rfl, ?_⟩))
 go_roundg k1
 case measure => have := HK1.out; omega
 case rel => exact ⟨(wrap64 (kJ + (rd l1 AC))), (wrap64 (AC + 1)), sr, sr, H', ⟨by have := HK1.out; omega⟩, xb KI, ⟨lb⟩⟩
theorem fe.ok (k : Nat) (ay : Int) (bX : Option Addr) (bN : Nat) (ae : List (S98)) (A1 : Option Addr) (c1 : Nat) (l1 : List Int) (w : World) (dB : Kd.C k98 w bX ae.length ae) (dC : ae.length ≤ bN) (hr1 : Kd.C (Kd.int .i64) w A1 l1.length l1) (hc1 : l1.length ≤ c1) (h : fe.f k ay ae l1 = some 0) :
    Calls Try.prog 61 #[.agg #[.int .i64 ay, .slice bX ae.length bN], .slice A1 l1.length c1] w fun e w' => e = .returned (.tuple #[]) ∧ Below w.heap.size w w' :=
 (fe.calls k ay bX bN ae A1 c1 l1 0 w dB dC hr1 hc1 h).mono fun e w' h_ => h_.good rfl
theorem fe.bad (k : Nat) (ay : Int) (bX : Option Addr) (bN : Nat) (ae : List (S98)) (A1 : Option Addr) (c1 : Nat) (l1 : List Int) (r : Int) (w : World) (dB : Kd.C k98 w bX ae.length ae) (dC : ae.length ≤ bN) (hr1 : Kd.C (Kd.int .i64) w A1 l1.length l1) (hc1 : l1.length ≤ c1) (h : fe.f k ay ae l1 = some r) (hne_ : r ≠ 0) :
    Calls Try.prog 61 #[.agg #[.int .i64 ay, .slice bX ae.length bN], .slice A1 l1.length c1] w fun e w' => e = gave r ∧ Below w.heap.size w w' :=
 (fe.calls k ay bX bN ae A1 c1 l1 r w dB dC hr1 hc1 h).mono fun e w' h_ => h_.bad hne_

end Go.Proofs.Ytkdoihcjhccliaa.Q
