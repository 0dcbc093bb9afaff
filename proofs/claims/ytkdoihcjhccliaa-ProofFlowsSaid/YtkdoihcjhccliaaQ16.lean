-- PRINTED by print.py (a twelfth state) out of the translation. Not trusted: Lean checks it.
import Derived.Test.YtkdoihcjhccliaaQ0
import Derived.Test.YtkdoihcjhccliaaQ3
import Derived.Test.YtkdoihcjhccliaaQ15
namespace Go.Proofs.Ytkdoihcjhccliaa.Q
open Go.RowKit Go.Proofs.YtkdoihcjhccliaaW.PrintWords Go.Proofs.YtkdoihcjhccliaaW.PrintLast Go.Proofs.YtkdoihcjhccliaaW.PrintMore
attribute [local go_sem] max2_int min2_int max_two min_two max_three min_three max_four min_four   -- for this text's walks alone
set_option linter.unusedVariables false
set_option linter.unusedSimpArgs false

/-! ### GIVEN: proof_Postman: function 26 -/
def proof_Postman.f (k : Nat) (a0_0 : Int) (l0_1 : List S98) (l1_0 : List Int) (l1_1 : List Int) : Option (Int × Int) := (proof_Postman_1.f k a0_0 l0_1 l1_0 l1_1 0).bind fun t => some (t.2, t.1)
theorem proof_Postman.mono : ∀ y0 y1 y2 y3 k, LeO (proof_Postman.f k y0 y1 y2 y3) (proof_Postman.f (k + 1) y0 y1 y2 y3) := fun y0 y1 y2 y3 k => LeO.bind (proof_Postman_1.mono y0 y1 y2 y3 0 k) (fun _ => LeO.refl _)
theorem proof_Postman.look (k : Nat) (a0_0 : Int) (A0_1 : Option Addr) (c0_1 : Nat) (l0_1 : List S98) (A1_0 : Option Addr) (c1_0 : Nat) (l1_0 : List Int) (A1_1 : Option Addr) (c1_1 : Nat) (l1_1 : List Int) (c : Int) (v0 : Int) (w W : World) (g0 g1 g2 : Nat) (hr0_1 : Kd.C k98 w A0_1 l0_1.length l0_1) (hc0_1 : l0_1.length ≤ c0_1) (hr1_0 : Kd.C (Kd.int .i64) w A1_0 l1_0.length l1_0) (hc1_0 : l1_0.length ≤ c1_0) (hr1_1 : Kd.C (Kd.int .i64) w A1_1 l1_1.length l1_1) (hc1_1 : l1_1.length ≤ c1_1) (hB : Below w.heap.size w W) (b0 : W.heap[g0]? = some (.cells #[.int .i64 a0_0, .slice A0_1 l0_1.length c0_1] 24 (0, 0))) (e0 : w.heap.size ≤ g0) (b1 : W.heap[g1]? = some (.cells #[.slice A1_0 l1_0.length c1_0, .slice A1_1 l1_1.length c1_1] 51 (0, 0))) (e1 : w.heap.size ≤ g1) (b2 : W.heap[g2]? = some (.cells #[.int .i64 0] 2 (0, 0))) (e2 : w.heap.size ≤ g2) (n0_1 : g0 ≠ g1) (n0_2 : g0 ≠ g2) (n1_2 : g1 ≠ g2) (H : proof_Postman_1.f k a0_0 l0_1 l1_0 l1_1 0 = some (c, v0)) {R : Ending → World → Prop}
    (hR : ∀ w4, w4.heap[g2]? = some (.cells #[.int .i64 v0] 2 (0, 0)) → Below w.heap.size w w4 → R (.returned (.int .i64 c)) w4) : Calls Try.prog 48 #[.func (.func 66) #[] #[.pointer (some ⟨g0, 0, none⟩), .pointer (some ⟨g1, 0, none⟩), .pointer (some ⟨g2, 0, none⟩)]] W R := by
  refine proof_look.any (G := fun W4 => W4.heap[g2]? = some (.cells #[.int .i64 v0] 2 (0, 0)) ∧ Below w.heap.size w W4) c Try.func66 (by kernel_rfl) rfl ((proof_Postman_1.calls k a0_0 A0_1 c0_1 l0_1 A1_0 c1_0 l1_0 A1_1 c1_1 l1_1 0 c v0 w (W.alloc (.cells #[.int .i64 0] 30)) g0 g1 g2 W.heap.size hr0_1 hc0_1 hr1_0 hc1_0 hr1_1 hc1_1 (below_alloc hB _) (blk_alloc b0 _) e0 (blk_alloc b1 _) e1 (blk_alloc b2 _) e2 (blk_new W _) hB.size n0_1 n0_2 (Nat.ne_of_lt (blk_lt b0)) n1_2 (Nat.ne_of_lt (blk_lt b1)) (Nat.ne_of_lt (blk_lt b2)) H).mono fun e W4 h_ => ?_) (fun w' w'' h_ k_ => ?_)
  · obtain ⟨x0, x1, x2, x3⟩ := h_; exact ⟨x0, x2, x1, x3⟩
  · obtain ⟨x1, x3⟩ := h_; exact hR w'' ((k_.block _ (blk_lt b2)).trans x1) (x3.trans (k_.mono hB.size))
set_option maxHeartbeats 2000000 in
set_option maxRecDepth 100000 in
theorem proof_Postman.calls (k : Nat) (a0_0 : Int) (A0_1 : Option Addr) (c0_1 : Nat) (l0_1 : List S98) (A1_0 : Option Addr) (c1_0 : Nat) (l1_0 : List Int) (A1_1 : Option Addr) (c1_1 : Nat) (l1_1 : List Int) (r1 : Int) (r2 : Int) (w : World) (hr0_1 : Kd.C k98 w A0_1 l0_1.length l0_1) (hc0_1 : l0_1.length ≤ c0_1) (hr1_0 : Kd.C (Kd.int .i64) w A1_0 l1_0.length l1_0) (hc1_0 : l1_0.length ≤ c1_0) (hr1_1 : Kd.C (Kd.int .i64) w A1_1 l1_1.length l1_1) (hc1_1 : l1_1.length ≤ c1_1) (h : proof_Postman.f k a0_0 l0_1 l1_0 l1_1 = some (r1, r2)) :
    Calls Try.prog 26 #[.agg #[.int .i64 a0_0, .slice A0_1 l0_1.length c0_1], .agg #[.slice A1_0 l1_0.length c1_0, .slice A1_1 l1_1.length c1_1]] w fun e w' => e = .returned (.tuple #[.int .i64 r1, .int .i64 r2]) ∧ Below w.heap.size w w' := by
  obtain ⟨⟨t1, t2⟩, H, e⟩ := Option.bind_eq_some_iff.mp h
  simp only [Option.some.injEq, Prod.mk.injEq] at e
  obtain ⟨rfl, rfl⟩ := e
  have A_ := Aside0.mk H
  clear h H
  have HR0_1 := Aside0.mk hr0_1
  have HC0_1 := Aside0.mk hc0_1
  clear hr0_1 hc0_1
  have HR1_0 := Aside0.mk hr1_0
  have HC1_0 := Aside0.mk hc1_0
  clear hr1_0 hc1_0
  have HR1_1 := Aside0.mk hr1_1
  have HC1_1 := Aside0.mk hc1_1
  clear hr1_1 hc1_1
  have hmf : ∀ (fn : Fn) (first cap : Array Value) (w : World), (Instr.makeFunc fn first cap).run Try.prog w = .ok (.func fn first cap) w := fun _ _ _ _ => rfl
  have hu24 := Try.underlying24
  have hu51 := Try.underlying51
  go_enter Try.func26, Try.ntmps26
  go_wp2_with (first | ((with_reducible refine gate_dst (N := 2) rfl ?_); refine box_event ?hg (N := 2) ?hd (cs := #[.int .i64 a0_0, .slice A0_1 l0_1.length c0_1]) (t := 24) ?hr ?_; (case hd => rfl); (case hg => rfl); (case hr => first | (go_simp; done) | (go_simp; rfl)); intro g0 e_ w0_ b_ l_; have HL_g0 := Aside0.mk (show Below w.heap.size w w0_ from l_); have GG_g0 := Aside0.mk (show w.heap.size ≤ g0 from by rw [e_]; exact Nat.le_refl _); have BB_g0 := Aside0.mk b_; clear e_ b_ l_) | ((with_reducible refine gate_dst (N := 3) rfl ?_); refine box_event ?hg (N := 3) ?hd (cs := #[.slice A1_0 l1_0.length c1_0, .slice A1_1 l1_1.length c1_1]) (t := 51) ?hr ?_; (case hd => rfl); (case hg => rfl); (case hr => first | (go_simp; done) | (go_simp; rfl)); intro g1 e_ w1_ b_ l_; have n_g0 := Aside0.mk (blk_below BB_g0.out l_); have m_g0_g1 := Aside0.mk (show g0 ≠ g1 from by rw [e_]; exact Nat.ne_of_lt (blk_lt BB_g0.out)); have HL_g1 := Aside0.mk (show Below w.heap.size w w1_ from below_step HL_g0.out l_); have GG_g1 := Aside0.mk (show w.heap.size ≤ g1 from by rw [e_]; exact HL_g0.out.size); clear BB_g0; have BB_g0 := n_g0; clear n_g0; have BB_g1 := Aside0.mk b_; clear e_ b_ l_) | ((with_reducible refine gate_dst (N := 6) rfl ?_); refine box_event ?hg (N := 6) ?hd (cs := #[.int .i64 0]) (t := 2) ?hr ?_; (case hd => rfl); (case hg => rfl); (case hr => first | (go_simp; done) | (go_simp; rfl)); intro g2 e_ w2_ b_ l_; have n_g0 := Aside0.mk (blk_below BB_g0.out l_); have m_g0_g2 := Aside0.mk (show g0 ≠ g2 from by rw [e_]; exact Nat.ne_of_lt (blk_lt BB_g0.out)); have n_g1 := Aside0.mk (blk_below BB_g1.out l_); have m_g1_g2 := Aside0.mk (show g1 ≠ g2 from by rw [e_]; exact Nat.ne_of_lt (blk_lt BB_g1.out)); have HL_g2 := Aside0.mk (show Below w.heap.size w w2_ from below_step HL_g1.out l_); have GG_g2 := Aside0.mk (show w.heap.size ≤ g2 from by rw [e_]; exact HL_g1.out.size); clear BB_g0; have BB_g0 := n_g0; clear n_g0; clear BB_g1; have BB_g1 := n_g1; clear n_g1; have BB_g2 := Aside0.mk b_; have hz0 := (blk_cell b_ 0).trans rfl; have hy0 := blk_frozen b_ 0; clear e_ b_ l_) | ((with_reducible refine gate_callee (f := 48) rfl ?_); refine goesL_ (some 9) rfl rfl Try.func48 (by kernel_rfl) rfl #[.func (.func 66) #[] #[.pointer (some ⟨g0, 0, none⟩), .pointer (some ⟨g1, 0, none⟩), .pointer (some ⟨g2, 0, none⟩)]] rfl (by (try simp only [List.map_toArray, List.map_cons, List.map_nil]); first | done | rfl) ?_; refine proof_Postman.look k a0_0 A0_1 c0_1 l0_1 A1_0 c1_0 l1_0 A1_1 c1_1 l1_1 t1 t2 w _ g0 g1 g2 HR0_1.out HC0_1.out HR1_0.out HC1_0.out HR1_1.out HC1_1.out (below_set HL_g2.out GG_g2.out) (blk_far BB_g0.out m_g0_g2.out _) GG_g0.out (blk_far BB_g1.out m_g1_g2.out _) GG_g1.out (blk_put BB_g2.out 0 _ rfl) GG_g2.out m_g0_g1.out m_g0_g2.out m_g1_g2.out A_.out (fun w4 b4 l4 => ⟨_, rfl, ?_⟩); have hz40 := (blk_cell b4 0).trans rfl; have hy40 := blk_frozen b4 0; have L4 := Aside0.mk l4; clear l4 b4))
  go_ret2
  exact ⟨by first | rfl | (simp; done), L4.out⟩

/-! ### safeint_size: function 80 -/
def safeint_size.f (a0 : Int) : Option (Int) := if a0 < 0 then (some (IntKind.u64.wrap (-(IntKind.u64.wrap (a0))))) else (some (IntKind.u64.wrap (a0)))
set_option maxHeartbeats 8000000 in
set_option maxRecDepth 100000 in
theorem safeint_size.calls (a0 : Int) (r : Int) (w : World) (h : safeint_size.f a0 = some r) :
    Calls Try.prog 80 #[.int .i64 a0] w fun e w' => e = .returned (.int .u64 r) ∧ Drawn0 w w' := by
 have H : (if a0 < 0 then (some (IntKind.u64.wrap (-(IntKind.u64.wrap (a0))))) else (some (IntKind.u64.wrap (a0)))) = some r := h
 clear h
 by_cases c2 : a0 < 0
 ·
  rw [if_pos c2] at H
  have c2b0 : decide (a0 < 0) = true := decide_eq_true c2
  clear c2
  obtain rfl := Option.some.inj H
  go_enter Try.func80, Try.ntmps80
  go_wp2
  go_ret
  exact ⟨by first | rfl | (simp; done) | (simp [*]; done), by repeat (first | exact Drawn0.refl _ | apply Drawn0.step)⟩
 ·
  rw [if_neg c2] at H
  have c2b0 : decide (a0 < 0) = false := decide_eq_false c2
  clear c2
  obtain rfl := Option.some.inj H
  go_enter Try.func80, Try.ntmps80
  go_wp2
  go_ret
  exact ⟨by first | rfl | (simp; done) | (simp [*]; done), by repeat (first | exact Drawn0.refl _ | apply Drawn0.step)⟩

/-! ### safeint_Gcd: function 41 -/
def safeint_Gcd.l0 : Nat → Int → Int → Option (Int)
  | 0, _, _ => none
  | k + 1, x5, x6 => if x6 = 0 then (some x5) else (safeint_Gcd.l0 k x6 (Int.tmod x5 x6))
def safeint_Gcd.f (k : Nat) (a0 : Int) (a1 : Int) : Option (Int) := (safeint_size.f a0).bind fun t230 => ((safeint_size.f a1).bind fun t231 => (safeint_Gcd.l0 k t230 t231))
theorem safeint_Gcd.mono_l : ∀ k, (∀ y0 y1, LeO (safeint_Gcd.l0 k y0 y1) (safeint_Gcd.l0 (k + 1) y0 y1))
  | 0 => fun _ _ r h => by simp [safeint_Gcd.l0] at h
  | k + 1 => by
    have ih0 := safeint_Gcd.mono_l k
    · intro y0 y1
      unfold safeint_Gcd.l0
      repeat' first
      | (with_reducible exact ih0 _ _)
      | (with_reducible exact LeO.refl _)
      | (with_reducible exact LeO.none _)
      | (with_reducible refine LeO.ite ?_ ?_)
      | (with_reducible refine LeO.bind ?_ (fun _ => ?_))
      | exact ih0 _ _
      | exact LeO.none _
      | refine LeO.ite ?_ ?_
      | refine LeO.bind ?_ (fun _ => ?_)
theorem safeint_Gcd.mono : ∀ a0 a1 k, LeO (safeint_Gcd.f k a0 a1) (safeint_Gcd.f (k + 1) a0 a1) := by
  intro a0 a1 k
  have ih0 := safeint_Gcd.mono_l k
  unfold safeint_Gcd.f
  repeat' first
      | (with_reducible exact ih0 _ _)
      | (with_reducible exact LeO.refl _)
      | (with_reducible exact LeO.none _)
      | (with_reducible refine LeO.ite ?_ ?_)
      | (with_reducible refine LeO.bind ?_ (fun _ => ?_))
      | exact ih0 _ _
      | exact LeO.none _
      | refine LeO.ite ?_ ?_
      | refine LeO.bind ?_ (fun _ => ?_)
set_option maxHeartbeats 8000000 in
set_option maxRecDepth 100000 in
theorem safeint_Gcd.calls (k : Nat) (a0 : Int) (a1 : Int) (r : Int) (w : World) (h : safeint_Gcd.f k a0 a1 = some r) :
    Calls Try.prog 41 #[.int .i64 a0, .int .i64 a1] w fun e w' => e = .returned (.int .u64 r) ∧ Drawn0 w w' := by
 have H : ((safeint_size.f a0).bind fun t230 => ((safeint_size.f a1).bind fun t231 => (safeint_Gcd.l0 k t230 t231))) = some r := h
 clear h
 replace H := Option.bind_eq_some_iff.mp H
 obtain ⟨t230, A30, H⟩ := H
 replace H : ((safeint_size.f a1).bind fun t231 => (safeint_Gcd.l0 k t230 t231)) = some r := H
 have A3 := ak A30
 clear A30
 replace H := Option.bind_eq_some_iff.mp H
 obtain ⟨t231, A40, H⟩ := H
 replace H : (safeint_Gcd.l0 k t230 t231) = some r := H
 have A4 := ak A40
 clear A40
 have H' := ak H
 clear H
 go_enter Try.func41, Try.ntmps41
 go_wp2_with (first | (go_at_call 80; (with_reducible refine (safeint_size.calls a0 t230 _ A3.out).mono ?_); rintro e w' ⟨rfl, ⟨nd, rfl⟩⟩; (try first | exact ⟨rfl, _, World.drewN_drewN _ _ _⟩ | exact ⟨rfl, _, Eq.trans (World.drewN_drewN _ _ _) (congrArg (World.drewN _) (Nat.add_assoc _ _ _))⟩)) | (go_at_call 80; (with_reducible refine (safeint_size.calls a1 t231 _ A4.out).mono ?_); rintro e w' ⟨rfl, ⟨nd, rfl⟩⟩; (try first | exact ⟨rfl, _, World.drewN_drewN _ _ _⟩ | exact ⟨rfl, _, Eq.trans (World.drewN_drewN _ _ _) (congrArg (World.drewN _) (Nat.add_assoc _ _ _))⟩)))
 repeat (go_quiet (first | (go_at_call 80; (with_reducible refine (safeint_size.calls a0 t230 _ A3.out).mono ?_); rintro e w' ⟨rfl, ⟨nd, rfl⟩⟩; (try first | exact ⟨rfl, _, World.drewN_drewN _ _ _⟩ | exact ⟨rfl, _, Eq.trans (World.drewN_drewN _ _ _) (congrArg (World.drewN _) (Nat.add_assoc _ _ _))⟩)) | (go_at_call 80; (with_reducible refine (safeint_size.calls a1 t231 _ A4.out).mono ?_); rintro e w' ⟨rfl, ⟨nd, rfl⟩⟩; (try first | exact ⟨rfl, _, World.drewN_drewN _ _ _⟩ | exact ⟨rfl, _, Eq.trans (World.drewN_drewN _ _ _) (congrArg (World.drewN _) (Nat.add_assoc _ _ _))⟩))); try go_wp2_with (first | (go_at_call 80; (with_reducible refine (safeint_size.calls a0 t230 _ A3.out).mono ?_); rintro e w' ⟨rfl, ⟨nd, rfl⟩⟩; (try first | exact ⟨rfl, _, World.drewN_drewN _ _ _⟩ | exact ⟨rfl, _, Eq.trans (World.drewN_drewN _ _ _) (congrArg (World.drewN _) (Nat.add_assoc _ _ _))⟩)) | (go_at_call 80; (with_reducible refine (safeint_size.calls a1 t231 _ A4.out).mono ?_); rintro e w' ⟨rfl, ⟨nd, rfl⟩⟩; (try first | exact ⟨rfl, _, World.drewN_drewN _ _ _⟩ | exact ⟨rfl, _, Eq.trans (World.drewN_drewN _ _ _) (congrArg (World.drewN _) (Nat.add_assoc _ _ _))⟩))))
 go_loopg [5, 6] k (fun kq v5 v6 w' => ∃ (x5_1 : Int) (x6_1 : Int), v5 = .int .u64 x5_1 ∧ v6 = .int .u64 x6_1 ∧ Aside0 (safeint_Gcd.l0 kq x5_1 x6_1 = some r) ∧ Aside0 (kq ≤ k) ∧ Drawn0 w w')
 case atStart => exact ⟨(t230), (t231), (by first | rfl | (simp [*]; done)), (by first | rfl | (simp [*]; done)), H', ⟨Nat.le_refl _⟩, by repeat (first | exact Drawn0.refl _ | apply Drawn0.step)⟩
 case round =>
  clear H'
  try clear p2; try clear c4
  obtain ⟨x5_1, x6_1, rfl, rfl, HA, HK1, ⟨m1, rfl⟩⟩ := hrel
  cases gk with
  | zero => exact absurd HA.out (by simp [safeint_Gcd.l0])
  | succ k1 =>
   have H := HA.out
   clear HA
   simp only [safeint_Gcd.l0] at H
   by_cases c5 : x6_1 = 0
   ·
    rw [if_pos c5] at H
    have c5b0 : (x6_1 == 0) = true := beq_iff_eq.mpr c5
    have c5b1 : (x6_1 != 0) = false := bne_eq_false_iff_eq.mpr c5
    clear c5
    obtain rfl := Option.some.inj H
    go_wp2
    repeat (go_quiet (fail); try go_wp2)
    go_ret
    exact ⟨by first | rfl | (simp; done) | (simp [*]; done), by repeat (first | exact Drawn0.refl _ | apply Drawn0.step)⟩
   ·
    rw [if_neg c5] at H
    have c5b0 : (x6_1 == 0) = false := beq_eq_false_iff_ne.mpr c5
    have c5b1 : (x6_1 != 0) = true := bne_iff_ne.mpr c5
    have H' := ak H
    clear H
    go_wp2
    repeat (go_quiet (fail); try go_wp2)
    go_roundg k1
    case measure => have := HK1.out; omega
    case rel => exact ⟨(x6_1), (Int.tmod x5_1 x6_1), (by first | rfl | (simp [*]; done)), (by first | rfl | (simp [*]; done)), H', ⟨by have := HK1.out; omega⟩, by repeat (first | exact Drawn0.refl _ | apply Drawn0.step)⟩

end Go.Proofs.Ytkdoihcjhccliaa.Q
