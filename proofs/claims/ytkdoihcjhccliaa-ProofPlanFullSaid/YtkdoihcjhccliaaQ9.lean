import Derived.Test.YtkdoihcjhccliaaQ0
import Derived.Test.YtkdoihcjhccliaaQ3
import Derived.Test.YtkdoihcjhccliaaQ8
namespace Go.Proofs.Ytkdoihcjhccliaa.Q
open Go.RowKit Go.Proofs.YtkdoihcjhccliaaW.PrintWords Go.Proofs.YtkdoihcjhccliaaW.PrintLast Go.Proofs.YtkdoihcjhccliaaW.PrintMore
attribute [local go_sem] max2_int min2_int max_two min_two max_three min_three max_four min_four   -- for this text's walks alone
set_option linter.unusedVariables false
set_option linter.unusedSimpArgs false

/-! ### GIVEN: proof_Max: function 16 -/
def proof_Max.f (k : Nat) (a0_0 : Int) (l0_1 : List S98) (a1_0 : Int) (a1_1 : Int) (l1_2 : List Int) (l1_3 : List Bool) : Option (Int × Int) := (proof_Max_1.f k a0_0 l0_1 a1_0 a1_1 l1_2 l1_3 0).bind fun t => some (t.2, t.1)
theorem proof_Max.look (k : Nat) (a0_0 : Int) (A0_1 : Option Addr) (c0_1 : Nat) (l0_1 : List S98) (a1_0 : Int) (a1_1 : Int) (A1_2 : Option Addr) (c1_2 : Nat) (l1_2 : List Int) (A1_3 : Option Addr) (c1_3 : Nat) (l1_3 : List Bool) (c : Int) (v0 : Int) (w W : World) (g0 g1 g2 : Nat) (hr0_1 : Kd.C k98 w A0_1 l0_1.length l0_1) (hc0_1 : l0_1.length ≤ c0_1) (hr1_2 : Kd.C (Kd.int .i64) w A1_2 l1_2.length l1_2) (hc1_2 : l1_2.length ≤ c1_2) (hr1_3 : Kd.C Kd.bool w A1_3 l1_3.length l1_3) (hc1_3 : l1_3.length ≤ c1_3) (hB : Below w.heap.size w W) (b0 : W.heap[g0]? = some (.cells #[.int .i64 a0_0, .slice A0_1 l0_1.length c0_1] 24 (0, 0))) (e0 : w.heap.size ≤ g0) (b1 : W.heap[g1]? = some (.cells #[.int .i64 a1_0, .int .i64 a1_1, .slice A1_2 l1_2.length c1_2, .slice A1_3 l1_3.length c1_3] 28 (0, 0))) (e1 : w.heap.size ≤ g1) (b2 : W.heap[g2]? = some (.cells #[.int .i64 0] 2 (0, 0))) (e2 : w.heap.size ≤ g2) (n0_1 : g0 ≠ g1) (n0_2 : g0 ≠ g2) (n1_2 : g1 ≠ g2) (H : proof_Max_1.f k a0_0 l0_1 a1_0 a1_1 l1_2 l1_3 0 = some (c, v0)) {R : Ending → World → Prop}
    (hR : ∀ w4, w4.heap[g2]? = some (.cells #[.int .i64 v0] 2 (0, 0)) → Below w.heap.size w w4 → R (.returned (.int .i64 c)) w4) : Calls Try.prog 48 #[.func (.func 49) #[] #[.pointer (some ⟨g0, 0, none⟩), .pointer (some ⟨g1, 0, none⟩), .pointer (some ⟨g2, 0, none⟩)]] W R := by
  refine proof_look.any (G := fun W4 => W4.heap[g2]? = some (.cells #[.int .i64 v0] 2 (0, 0)) ∧ Below w.heap.size w W4) c Try.func49 (by kernel_rfl) rfl ((proof_Max_1.calls k a0_0 A0_1 c0_1 l0_1 a1_0 a1_1 A1_2 c1_2 l1_2 A1_3 c1_3 l1_3 0 c v0 w (W.alloc (.cells #[.int .i64 0] 30)) g0 g1 g2 W.heap.size hr0_1 hc0_1 hr1_2 hc1_2 hr1_3 hc1_3 (below_alloc hB _) (blk_alloc b0 _) e0 (blk_alloc b1 _) e1 (blk_alloc b2 _) e2 (blk_new W _) hB.size n0_1 n0_2 (Nat.ne_of_lt (blk_lt b0)) n1_2 (Nat.ne_of_lt (blk_lt b1)) (Nat.ne_of_lt (blk_lt b2)) H).mono fun e W4 h_ => ?_) (fun w' w'' h_ k_ => ?_)
  · obtain ⟨x0, x1, x2, x3⟩ := h_; exact ⟨x0, x2, x1, x3⟩
  · obtain ⟨x1, x3⟩ := h_; exact hR w'' ((k_.block _ (blk_lt b2)).trans x1) (x3.trans (k_.mono hB.size))
set_option maxHeartbeats 2000000 in
set_option maxRecDepth 100000 in
theorem proof_Max.calls (k : Nat) (a0_0 : Int) (A0_1 : Option Addr) (c0_1 : Nat) (l0_1 : List S98) (a1_0 : Int) (a1_1 : Int) (A1_2 : Option Addr) (c1_2 : Nat) (l1_2 : List Int) (A1_3 : Option Addr) (c1_3 : Nat) (l1_3 : List Bool) (r1 : Int) (r2 : Int) (w : World) (hr0_1 : Kd.C k98 w A0_1 l0_1.length l0_1) (hc0_1 : l0_1.length ≤ c0_1) (hr1_2 : Kd.C (Kd.int .i64) w A1_2 l1_2.length l1_2) (hc1_2 : l1_2.length ≤ c1_2) (hr1_3 : Kd.C Kd.bool w A1_3 l1_3.length l1_3) (hc1_3 : l1_3.length ≤ c1_3) (h : proof_Max.f k a0_0 l0_1 a1_0 a1_1 l1_2 l1_3 = some (r1, r2)) :
    Calls Try.prog 16 #[.agg #[.int .i64 a0_0, .slice A0_1 l0_1.length c0_1], .agg #[.int .i64 a1_0, .int .i64 a1_1, .slice A1_2 l1_2.length c1_2, .slice A1_3 l1_3.length c1_3]] w fun e w' => e = .returned (.tuple #[.int .i64 r1, .int .i64 r2]) ∧ Below w.heap.size w w' := by
  obtain ⟨⟨t1, t2⟩, H, e⟩ := Option.bind_eq_some_iff.mp h
  simp only [Option.some.injEq, Prod.mk.injEq] at e
  obtain ⟨rfl, rfl⟩ := e; have A_ := Aside0.mk H; clear h H; have HR0_1 := Aside0.mk hr0_1; have HC0_1 := Aside0.mk hc0_1; clear hr0_1 hc0_1; have HR1_2 := Aside0.mk hr1_2; have HC1_2 := Aside0.mk hc1_2; clear hr1_2 hc1_2; have HR1_3 := Aside0.mk hr1_3; have HC1_3 := Aside0.mk hc1_3; clear hr1_3 hc1_3
  have hmf : ∀ (fn : Fn) (first cap : Array Value) (w : World), (Instr.makeFunc fn first cap).run Try.prog w = .ok (.func fn first cap) w := fun _ _ _ _ => rfl
  have hu24 := Try.underlying24; have hu28 := Try.underlying28
  go_enter Try.func16, Try.ntmps16
  go_wp2_with (first | ((with_reducible refine gate_dst (N := 2) rfl ?_); refine bxe 2 #[.int .i64 a0_0, .slice A0_1 l0_1.length c0_1] 24 ?_; intro g0 e_ w0_ b_ l_; have HL_g0 := Aside0.mk (show Below w.heap.size w w0_ from l_); have GG_g0 := Aside0.mk (show w.heap.size ≤ g0 from by rw [e_]; exact Nat.le_refl _); have BB_g0 := Aside0.mk b_; clear e_ b_ l_) | ((with_reducible refine gate_dst (N := 3) rfl ?_); refine bxe 3 #[.int .i64 a1_0, .int .i64 a1_1, .slice A1_2 l1_2.length c1_2, .slice A1_3 l1_3.length c1_3] 28 ?_; intro g1 e_ w1_ b_ l_; have n_g0 := Aside0.mk (blk_below BB_g0.out l_); have m_g0_g1 := Aside0.mk (show g0 ≠ g1 from by rw [e_]; exact Nat.ne_of_lt (blk_lt BB_g0.out)); have HL_g1 := Aside0.mk (show Below w.heap.size w w1_ from below_step HL_g0.out l_); have GG_g1 := Aside0.mk (show w.heap.size ≤ g1 from by rw [e_]; exact HL_g0.out.size); clear BB_g0; have BB_g0 := n_g0; clear n_g0; have BB_g1 := Aside0.mk b_; clear e_ b_ l_) | ((with_reducible refine gate_dst (N := 6) rfl ?_); refine bxe 6 #[.int .i64 0] 2 ?_; intro g2 e_ w2_ b_ l_; have n_g0 := Aside0.mk (blk_below BB_g0.out l_); have m_g0_g2 := Aside0.mk (show g0 ≠ g2 from by rw [e_]; exact Nat.ne_of_lt (blk_lt BB_g0.out)); have n_g1 := Aside0.mk (blk_below BB_g1.out l_); have m_g1_g2 := Aside0.mk (show g1 ≠ g2 from by rw [e_]; exact Nat.ne_of_lt (blk_lt BB_g1.out)); have HL_g2 := Aside0.mk (show Below w.heap.size w w2_ from below_step HL_g1.out l_); have GG_g2 := Aside0.mk (show w.heap.size ≤ g2 from by rw [e_]; exact HL_g1.out.size); clear BB_g0; have BB_g0 := n_g0; clear n_g0; clear BB_g1; have BB_g1 := n_g1; clear n_g1; have BB_g2 := Aside0.mk b_; have hz0 := (blk_cell b_ 0).trans rfl; have hy0 := blk_frozen b_ 0; clear e_ b_ l_) | ((with_reducible refine gate_callee (f := 48) rfl ?_); refine gl 9 Try.func48 #[.func (.func 49) #[] #[.pointer (some ⟨g0, 0, none⟩), .pointer (some ⟨g1, 0, none⟩), .pointer (some ⟨g2, 0, none⟩)]] ?_; refine proof_Max.look k a0_0 A0_1 c0_1 l0_1 a1_0 a1_1 A1_2 c1_2 l1_2 A1_3 c1_3 l1_3 t1 t2 w _ g0 g1 g2 HR0_1.out HC0_1.out HR1_2.out HC1_2.out HR1_3.out HC1_3.out (below_set HL_g2.out GG_g2.out) (blk_far BB_g0.out m_g0_g2.out _) GG_g0.out (blk_far BB_g1.out m_g1_g2.out _) GG_g1.out (blk_put BB_g2.out 0 _ rfl) GG_g2.out m_g0_g1.out m_g0_g2.out m_g1_g2.out A_.out (fun w4 b4 l4 => ⟨_, rfl, ?_⟩); have hz40 := (blk_cell b4 0).trans rfl; have hy40 := blk_frozen b4 0; have L4 := Aside0.mk l4; clear l4 b4))
  go_ret2
  exact ⟨by first | rfl | (simp; done), L4.out⟩

/-! ### proof_supplied: function 61 -/
def proof_supplied.l0 : Nat → Int → List Int → Int → Int → Option (Int)
  | 0, _, _, _, _ => none
  | k + 1, x4, x13, x14, x15 => if x15 < x14 then (if 0 ≤ x15 then (if x15 < (x13.length : Int) then (if (rd x13 x15) ≥ (-1048576) then (if (rd x13 x15) ≤ 1048576 then (proof_supplied.l0 k (wrap64 (x4 + (rd x13 x15))) x13 x14 (wrap64 (x15 + 1))) else (some 130)) else (some 130)) else (none)) else (none)) else (if x4 = 0 then (some 0) else (some 130))
def proof_supplied.f (k : Nat) (a0_0 : Int) (l0_1 : List (S98)) (l1 : List Int) : Option (Int) := if (l1.length : Int) = a0_0 then (proof_supplied.l0 k 0 l1 (l1.length : Int) 0) else (some 130)
set_option maxHeartbeats 8000000 in
set_option maxRecDepth 100000 in
theorem proof_supplied.calls (k : Nat) (a0_0 : Int) (A0_1 : Option Addr) (c0_1 : Nat) (l0_1 : List (S98)) (A1 : Option Addr) (c1 : Nat) (l1 : List Int) (r : Int) (w : World) (hr0_1 : Kd.C k98 w A0_1 l0_1.length l0_1) (hc0_1 : l0_1.length ≤ c0_1) (hr1 : Kd.C (Kd.int .i64) w A1 l1.length l1) (hc1 : l1.length ≤ c1) (h : proof_supplied.f k a0_0 l0_1 l1 = some r) :
    Calls Try.prog 61 #[.agg #[.int .i64 a0_0, .slice A0_1 l0_1.length c0_1], .slice A1 l1.length c1] w fun e w' => Gave r (e = .returned (.tuple #[]) ∧ Below w.heap.size w w') (e = gave r ∧ Below w.heap.size w w') := by
 have hu24 := Try.underlying24; have HR0_1 := ak hr0_1; have HC0_1 := ak hc0_1; clear hr0_1 hc0_1; have HR1 := ak hr1; have HC1 := ak hc1; clear hr1 hc1; have HB := ak (Below.refl w.heap.size w); have H : (if (l1.length : Int) = a0_0 then (proof_supplied.l0 k 0 l1 (l1.length : Int) 0) else (some 130)) = some r := h; clear h
 by_cases c3 : (l1.length : Int) = a0_0
 rotate_left
 ·
  rw [if_neg c3] at H; have c3b := bn2 c3; obtain rfl := Option.some.inj H
  go_enter Try.func61, Try.ntmps61
  go_wp2_with (first | ((with_reducible refine gate_dst (N := 2) rfl ?_); refine bxe 2 #[.int .i64 a0_0, .slice A0_1 l0_1.length c0_1] 24 ?_; intro gb145 hg w15 hbox hb; have n_ := a4 (bl hb) hbox (gw w hg) (gw w hg); clear HB; obtain ⟨HB, BK145, GW145, GE145⟩ := n_; clear hb hbox hg; have ⟨_, _, _, _⟩ := cf2 BK145) | ((with_reducible refine gate_callee (f := 51) rfl ?_); refine pl 12 Try.func51 #[.bool false, .int .i64 130] ?_; refine (proof_need.bad 130 _).mono ?_; rintro e w' ⟨rfl, rfl⟩; refine ⟨_, rfl, ?_⟩; (repeat (first | refine panic_then ?_ | refine panic_block ?_)); exact panic_body rfl (Gave.no da ⟨rfl, lb⟩)))
 rw [if_pos c3] at H; have c3b := be2 c3; clear c3; have A4 := ak (show proof_need.f true 130 = some () from rfl); have H' := ak H; clear H
 go_enter Try.func61, Try.ntmps61
 go_wp2_with (first | ((with_reducible refine gate_dst (N := 2) rfl ?_); refine bxe 2 #[.int .i64 a0_0, .slice A0_1 l0_1.length c0_1] 24 ?_; intro gb145 hg w5 hbox hb; have n_ := a4 (bl hb) hbox (gw w hg) (gw w hg); clear HB; obtain ⟨HB, BK145, GW145, GE145⟩ := n_; clear hb hbox hg; have ⟨_, _, _, _⟩ := cf2 BK145) | ((with_reducible refine gate_callee (f := 51) rfl ?_); refine gl 12 Try.func51 #[.bool true, .int .i64 130] ?_; (with_reducible refine (proof_need.calls true 130  _ A4.out).mono ?_); rintro e w' ⟨rfl, ⟨nd, rfl⟩⟩; refine ⟨_, rfl, ?_⟩))
 go_loopg [4, 15] k (fun kq v4 v15 w' => ∃ (x4_1 : Int) (x15_1 : Int), v4 = .int .i64 x4_1 ∧ v15 = .int .i64 x15_1 ∧ Aside0 (proof_supplied.l0 kq x4_1 l1 (l1.length : Int) x15_1 = some r) ∧ Aside0 (kq ≤ k) ∧ Aside0 (w'.heap[gb145]? = some (.cells #[.int .i64 a0_0, (.slice A0_1 l0_1.length c0_1)] 24 (0, 0))) ∧ Aside0 (Below w.heap.size w w'))
 case atStart => exact ⟨(0), (0), sr, sr, H', ⟨Nat.le_refl _⟩, xb BK145, ⟨lb⟩⟩
 clear H'; obtain ⟨x4_1, x15_1, rfl, rfl, HA, HK1, BK145, HB⟩ := hrel
 cases gk with
 | zero => exact absurd HA.out (by simp [proof_supplied.l0])
 | succ k1 => ?_
 have H := HA.out; clear HA
 simp only [proof_supplied.l0] at H
 by_cases c7 : x15_1 < (l1.length : Int)
 rotate_left
 ·
  rw [if_neg c7] at H; have c7b0 := decide_eq_false c7; clear c7
  by_cases c13 : x4_1 = 0
  rotate_left
  ·
   rw [if_neg c13] at H; have c13b := bn2 c13; obtain rfl := Option.some.inj H
   go_wp2_with (first | ((with_reducible refine gate_callee (f := 51) rfl ?_); refine pl 32 Try.func51 #[.bool false, .int .i64 130] ?_; refine (proof_need.bad 130 _).mono ?_; rintro e w' ⟨rfl, rfl⟩; refine ⟨_, rfl, ?_⟩; (repeat (first | refine panic_then ?_ | refine panic_block ?_)); exact panic_body rfl (Gave.no da ⟨rfl, lb⟩)))
  rw [if_pos c13] at H; have c13b := be2 c13; clear c13; have A14 := ak (show proof_need.f true 130 = some () from rfl); obtain rfl := Option.some.inj H
  go_wp2_with (first | ((with_reducible refine gate_callee (f := 51) rfl ?_); refine gl 32 Try.func51 #[.bool true, .int .i64 130] ?_; (with_reducible refine (proof_need.calls true 130  _ A14.out).mono ?_); rintro e w' ⟨rfl, ⟨nd, rfl⟩⟩; refine ⟨_, rfl, ?_⟩))
  first | go_end0 | ((try simp only [Exit.inBlock, Exit.then]); refine bodyPost_ret (results_none rfl _ _ _) rfl ?_)
  exact Gave.ok ⟨er, lb⟩
 rw [if_pos c7] at H; have c7b0 := decide_eq_true c7; clear c7; replace H := if2 H; obtain ⟨c8b0, c9b0, H⟩ := H
 by_cases c10 : (rd l1 x15_1) ≥ (-1048576)
 rotate_left
 ·
  rw [if_neg c10] at H; have c10b0 := decide_eq_false c10; clear c10; obtain rfl := Option.some.inj H; obtain ⟨p146, q146, ad146, e146, hx146_0⟩ := wq (Kd.at_int HR1.out x15_1); cases e146
  (try replace hx146_0 := hbc HB hx146_0)
  go_wp2_with (first | ((with_reducible refine gate_callee (f := 51) rfl ?_); refine pl 25 Try.func51 #[.bool false, .int .i64 130] ?_; refine (proof_need.bad 130 _).mono ?_; rintro e w' ⟨rfl, rfl⟩; refine ⟨_, rfl, ?_⟩; (repeat (first | refine panic_then ?_ | refine panic_block ?_)); exact panic_body rfl (Gave.no da ⟨rfl, lb⟩)))
 rw [if_pos c10] at H; have c10b0 := decide_eq_true c10; clear c10
 by_cases c11 : (rd l1 x15_1) ≤ 1048576
 rotate_left
 ·
  rw [if_neg c11] at H; have c11b0 := decide_eq_false c11; clear c11; obtain rfl := Option.some.inj H; obtain ⟨p146, q146, ad146, e146, hx146_0⟩ := wq (Kd.at_int HR1.out x15_1); cases e146
  (try replace hx146_0 := hbc HB hx146_0)
  go_wp2_with (first | ((with_reducible refine gate_callee (f := 51) rfl ?_); refine pl 25 Try.func51 #[.bool false, .int .i64 130] ?_; refine (proof_need.bad 130 _).mono ?_; rintro e w' ⟨rfl, rfl⟩; refine ⟨_, rfl, ?_⟩; (repeat (first | refine panic_then ?_ | refine panic_block ?_)); exact panic_body rfl (Gave.no da ⟨rfl, lb⟩)))
 rw [if_pos c11] at H; have c11b0 := decide_eq_true c11; clear c11; have A12 := ak (show proof_need.f true 130 = some () from rfl); have H' := ak H; clear H; obtain ⟨p146, q146, ad146, e146, hx146_0⟩ := wq (Kd.at_int HR1.out x15_1); cases e146
 (try replace hx146_0 := hbc HB hx146_0)
 go_wp2_with (first | ((with_reducible refine gate_callee (f := 51) rfl ?_); refine gl 25 Try.func51 #[.bool true, .int .i64 130] ?_; (with_reducible refine (proof_need.calls true 130  _ A12.out).mono ?_); rintro e w' ⟨rfl, ⟨nd, rfl⟩⟩; refine ⟨_, rfl, ?_⟩))
 go_roundg k1
 case measure => have := HK1.out; omega
 case rel => exact ⟨(wrap64 (x4_1 + (rd l1 x15_1))), (wrap64 (x15_1 + 1)), sr, sr, H', ⟨by have := HK1.out; omega⟩, xb BK145, ⟨lb⟩⟩
theorem proof_supplied.ok (k : Nat) (a0_0 : Int) (A0_1 : Option Addr) (c0_1 : Nat) (l0_1 : List (S98)) (A1 : Option Addr) (c1 : Nat) (l1 : List Int) (w : World) (hr0_1 : Kd.C k98 w A0_1 l0_1.length l0_1) (hc0_1 : l0_1.length ≤ c0_1) (hr1 : Kd.C (Kd.int .i64) w A1 l1.length l1) (hc1 : l1.length ≤ c1) (h : proof_supplied.f k a0_0 l0_1 l1 = some 0) :
    Calls Try.prog 61 #[.agg #[.int .i64 a0_0, .slice A0_1 l0_1.length c0_1], .slice A1 l1.length c1] w fun e w' => e = .returned (.tuple #[]) ∧ Below w.heap.size w w' :=
 (proof_supplied.calls k a0_0 A0_1 c0_1 l0_1 A1 c1 l1 0 w hr0_1 hc0_1 hr1 hc1 h).mono fun e w' h_ => h_.good rfl
theorem proof_supplied.bad (k : Nat) (a0_0 : Int) (A0_1 : Option Addr) (c0_1 : Nat) (l0_1 : List (S98)) (A1 : Option Addr) (c1 : Nat) (l1 : List Int) (r : Int) (w : World) (hr0_1 : Kd.C k98 w A0_1 l0_1.length l0_1) (hc0_1 : l0_1.length ≤ c0_1) (hr1 : Kd.C (Kd.int .i64) w A1 l1.length l1) (hc1 : l1.length ≤ c1) (h : proof_supplied.f k a0_0 l0_1 l1 = some r) (hne_ : r ≠ 0) :
    Calls Try.prog 61 #[.agg #[.int .i64 a0_0, .slice A0_1 l0_1.length c0_1], .slice A1 l1.length c1] w fun e w' => e = gave r ∧ Below w.heap.size w w' :=
 (proof_supplied.calls k a0_0 A0_1 c0_1 l0_1 A1 c1 l1 r w hr0_1 hc0_1 hr1 hc1 h).mono fun e w' h_ => h_.bad hne_

end Go.Proofs.Ytkdoihcjhccliaa.Q
