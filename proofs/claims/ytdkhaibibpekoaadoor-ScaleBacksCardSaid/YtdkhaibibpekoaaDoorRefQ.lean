/- The document's Quotient and Back, and the program's: the same words. -/
import Derived.Test.YtdkhaibibpekoaaDoorQ14
import Derived.Test.YtdkhaibibpekoaaDoorQ15
import Derived.Test.YtdkhaibibpekoaaDoorQ16
import Derived.Test.YtdkhaibibpekoaaDoorQ6
import Derived.Test.YtdkhaibibpekoaaDoorNearP
namespace Go.Proofs.YtdkhaibibpekoaaDoor.Pure
open Go.RowKit Go.Flt Go.Proofs.YtdkhaibibpekoaaDoor.Q Go.Proofs.YtdkhaibibpekoaaDoorW.PrintWords Go.Proofs.YtdkhaibibpekoaaDoorW.PrintLast Go.Proofs.YtdkhaibibpekoaaDoorW.PrintMore
set_option linter.unusedVariables false
theorem refQuot_loop (n d : Int) (a b : Nat) (a0 : 0 < a) (a1 : a < 18446744073709551616) (b0 : 0 < b) (b1 : b ≤ 9223372036854775808) :
    ∃ W, IsNear ((decide (n < 0)) != (decide (d < 0))) a b W ∧ ∀ (u t q r : Nat), t + u = 121 → a * 2 ^ t = b * q + r → r < b → q < 18446744073709551616 → Evl (fun k => compassref02_Quotient.l0 k n d (b : Int) (q : Int) (r : Int) (-(t : Int))) ((W : Int), 0) := by
  have big : ∀ t : Nat, 18014398509481984 ≤ a * 2 ^ t / b → a * 2 ^ t / b < 18446744073709551616 → t ≤ 121 → IsNear ((decide (n < 0)) != (decide (d < 0))) a b (nr ((decide (n < 0)) != (decide (d < 0))) (a * 2 ^ t / b) (-(t : Int)) (a * 2 ^ t % b != 0)) := fun t h1 h2 h3 => near_of_nr _ a b t b0 h1 h2 (by omega)
  have main : ∀ (W : Nat), IsNear ((decide (n < 0)) != (decide (d < 0))) a b W → ∀ (u t q r : Nat), t + u = 121 → a * 2 ^ t = b * q + r → r < b → q < 18446744073709551616 → Evl (fun k => compassref02_Quotient.l0 k n d (b : Int) (q : Int) (r : Int) (-(t : Int))) ((W : Int), 0) := by
    intro W hW u
    induction u with
    | zero =>
      intro t q r ht hD hr hq
      have t121 : t = 121 := by omega
      have qb : 144115188075855872 ≤ q := by
        by_cases c : 144115188075855872 ≤ q
        · exact c
        · have : b * q + r < 9223372036854775808 * 144115188075855872 := by
            have := Nat.mul_le_mul b1 (show q + 1 ≤ 144115188075855872 by omega)
            rw [Nat.mul_add, Nat.mul_one] at this
            have h2 := Nat.mul_le_mul_right (q + 1) b1
            rw [Nat.mul_add, Nat.mul_one] at h2
            omega
          have : 2 ^ 121 ≤ a * 2 ^ t := by rw [t121]; exact Nat.le_mul_of_pos_left _ a0
          omega
      have dq : a * 2 ^ t / b = q := by rw [hD, Nat.mul_add_div b0, Nat.div_eq_of_lt hr, Nat.add_zero]
      have dr : a * 2 ^ t % b = r := by rw [hD, Nat.mul_add_mod, Nat.mod_eq_of_lt hr]
      have bg := big t (by rw [dq]; omega) (by rw [dq]; exact hq) (by omega)
      rw [dq, dr] at bg
      have nf := near_f ((decide (n < 0)) != (decide (d < 0))) q (-(t : Int)) (decide ((r : Int) > 0)) (by omega) hq (by omega) (by omega)
      have e1 : min (max (-(t : Int)) (-1400)) 1400 = -(t : Int) := by omega
      have e2 : decide ((r : Int) > 0) = (r != 0) := by
        by_cases c : r = 0
        · subst c; rfl
        · rw [decide_eq_true (by omega), bne_iff_ne.mpr c]
      rw [e1, e2] at nf
      rw [← hW.unique bg] at nf
      obtain ⟨K, hK⟩ := nf
      refine ⟨K + 1, fun k hk => ?_⟩
      obtain ⟨m, rfl⟩ : ∃ m, k = m + 1 := ⟨k - 1, by omega⟩
      have nk : compassref02_Near.f m _ _ _ _ = _ := hK m (by omega)
      show compassref02_Quotient.l0 (m + 1) _ _ _ _ _ _ = _
      rw [compassref02_Quotient.l0, if_neg (by omega), e2, nk, Option.bind_some]
    | succ u ih =>
      intro t q r ht hD hr hq
      have dq : a * 2 ^ t / b = q := by rw [hD, Nat.mul_add_div b0, Nat.div_eq_of_lt hr, Nat.add_zero]
      have dr : a * 2 ^ t % b = r := by rw [hD, Nat.mul_add_mod, Nat.mod_eq_of_lt hr]
      by_cases c : q < 144115188075855872
      · have hD2 : a * 2 ^ (t + 1) = b * (2 * q) + 2 * r := by
          rw [Nat.pow_succ, ← Nat.mul_assoc, hD, Nat.add_mul, Nat.mul_assoc, Nat.mul_comm q]; omega
        have wb : IntKind.u64.wrap ((b : Int) - (r : Int)) = ((b - r : Nat) : Int) := by rw [show (b : Int) - (r : Int) = ((b - r : Nat) : Int) by omega]; exact un _ (by omega)
        have we : wrap64 (-(t : Int) - 1) = -((t + 1 : Nat) : Int) := by rw [w64 (by omega) (by omega)]; omega
        by_cases g : b ≤ 2 * r
        · have nx := ih (t + 1) (2 * q + 1) (2 * r - b) (by omega) (by rw [hD2, Nat.mul_add, Nat.mul_one]; omega) (by omega) (by omega)
          refine nx.step fun k => ?_
          rw [compassref02_Quotient.l0, if_pos (by omega), wb, if_pos (by omega), we, show (q : Int) * 2 = ((2 * q : Nat) : Int) by omega, un (2 * q) (by omega), show ((2 * q : Nat) : Int) + 1 = ((2 * q + 1 : Nat) : Int) by omega, un (2 * q + 1) (by omega), show (r : Int) - ((b - r : Nat) : Int) = ((2 * r - b : Nat) : Int) by omega, un (2 * r - b) (by omega)]
        · have nx := ih (t + 1) (2 * q) (2 * r) (by omega) hD2 (by omega) (by omega)
          refine nx.step fun k => ?_
          rw [compassref02_Quotient.l0, if_pos (by omega), wb, if_neg (by omega), we, show (q : Int) * 2 = ((2 * q : Nat) : Int) by omega, un (2 * q) (by omega), show (r : Int) + (r : Int) = ((2 * r : Nat) : Int) by omega, un (2 * r) (by omega)]
      · have bg := big t (by rw [dq]; omega) (by rw [dq]; exact hq) (by omega)
        rw [dq, dr] at bg
        have nf := near_f ((decide (n < 0)) != (decide (d < 0))) q (-(t : Int)) (decide ((r : Int) > 0)) (by omega) hq (by omega) (by omega)
        have e1 : min (max (-(t : Int)) (-1400)) 1400 = -(t : Int) := by omega
        have e2 : decide ((r : Int) > 0) = (r != 0) := by
          by_cases c : r = 0
          · subst c; rfl
          · rw [decide_eq_true (by omega), bne_iff_ne.mpr c]
        rw [e1, e2] at nf
        rw [← hW.unique bg] at nf
        obtain ⟨K, hK⟩ := nf
        refine ⟨K + 1, fun k hk => ?_⟩
        obtain ⟨m, rfl⟩ : ∃ m, k = m + 1 := ⟨k - 1, by omega⟩
        have nk : compassref02_Near.f m _ _ _ _ = _ := hK m (by omega)
        show compassref02_Quotient.l0 (m + 1) _ _ _ _ _ _ = _
        rw [compassref02_Quotient.l0, if_neg (by omega), e2, nk, Option.bind_some]
  obtain ⟨up, u1, u2, u3⟩ : ∃ up : Nat, 18014398509481984 ≤ a * 2 ^ up / b ∧ a * 2 ^ up / b < 18446744073709551616 ∧ up ≤ 1000 := by
    obtain ⟨p0, p1, p2, p3⟩ := bitLen_bounds a a0 a1
    obtain ⟨q0, q1, q2, q3⟩ := bitLen_bounds b b0 (by omega)
    generalize Lib.bitLen a = x at *
    generalize Lib.bitLen b = y at *
    refine ⟨63 + y - x, ?_, ?_, by omega⟩
    · rw [Nat.le_div_iff_mul_le b0]
      have h1 := Nat.mul_le_mul_right (2 ^ (63 + y - x)) p2
      rw [← Nat.pow_add, show x - 1 + (63 + y - x) = 62 + y by omega] at h1
      have h2 := Nat.mul_le_mul_left (2 ^ 62) (Nat.le_of_lt q3)
      rw [← Nat.pow_add] at h2
      omega
    · rw [Nat.div_lt_iff_lt_mul b0]
      have h1 := Nat.mul_lt_mul_of_pos_right p3 (Nat.two_pow_pos (63 + y - x))
      rw [← Nat.pow_add, show x + (63 + y - x) = 63 + y by omega] at h1
      have h2 := Nat.mul_le_mul_left (2 ^ 64) q2
      rw [← Nat.pow_add, show 64 + (y - 1) = 63 + y by omega] at h2
      omega
  exact ⟨_, near_of_nr _ a b up b0 u1 u2 u3, main _ (near_of_nr _ a b up b0 u1 u2 u3)⟩
theorem refQuotient_f (n d : Int) (n0 : -9223372036854775808 ≤ n) (n1 : n < 9223372036854775808) (d0 : -9223372036854775808 ≤ d) (d1 : d < 9223372036854775808) (hn : n ≠ 0) (hd : d ≠ 0) :
    ∃ W, IsNear ((decide (n < 0)) != (decide (d < 0))) n.natAbs d.natAbs W ∧ Evl (fun k => compassref02_Quotient.f k n d) ((W : Int), 0) := by
  obtain ⟨W, hW, hl⟩ := refQuot_loop n d n.natAbs d.natAbs (by omega) (by omega) (by omega) (by omega)
  refine ⟨W, hW, ?_⟩
  have L := hl 121 0 (n.natAbs / d.natAbs) (n.natAbs % d.natAbs) (by omega) (by rw [Nat.pow_zero, Nat.mul_one]; exact (Nat.div_add_mod _ _).symm) (Nat.mod_lt _ (by omega)) (Nat.lt_of_le_of_lt (Nat.div_le_self _ _) (by omega))
  refine L.congr fun k => ?_
  unfold compassref02_Quotient.f
  rw [if_neg hd, refsize_f n n0 n1, Option.bind_some, refsize_f d d0 d1, Option.bind_some, if_neg (by omega), if_neg (by omega)]
  rw [show ((n.natAbs : Int).tdiv (d.natAbs : Int)) = ((n.natAbs / d.natAbs : Nat) : Int) from rfl, show ((n.natAbs : Int).tmod (d.natAbs : Int)) = ((n.natAbs % d.natAbs : Nat) : Int) from rfl, un _ (Nat.lt_of_le_of_lt (Nat.div_le_self _ _) (by omega))]
  rfl
/-- The program's Quotient and the document's: the same bits, the same error. -/
theorem quot_same (n d : Int) (n0 : -9223372036854775808 ≤ n) (n1 : n < 9223372036854775808) (d0 : -9223372036854775808 ≤ d) (d1 : d < 9223372036854775808) : ∃ (W : Nat) (c : Int), Evl (fun k => scale_Quotient.f k n d) (W, c) ∧ Evl (fun k => compassref02_Quotient.f k n d) ((W : Int), c) := by
  by_cases hd : d = 0
  · subst hd
    exact ⟨0, 11, Evl.pure.congr (fun k => Quotient_none n k), Evl.pure.congr (fun k => by unfold compassref02_Quotient.f; rw [if_pos rfl]; rfl)⟩
  by_cases hn : n = 0
  · subst hn
    exact ⟨0, 0, Evl.pure.congr (fun k => Quotient_zero d d0 d1 hd k), Evl.pure.congr (fun k => by
      unfold compassref02_Quotient.f
      rw [if_neg hd, refsize_f 0 (by decide) (by decide), Option.bind_some, refsize_f d d0 d1, Option.bind_some, if_pos (by rfl)]; rfl)⟩
  obtain ⟨W, i, q⟩ := Quotient_f n d n0 n1 d0 d1 hn hd
  obtain ⟨W', i', q'⟩ := refQuotient_f n d n0 n1 d0 d1 hn hd
  rw [← i.unique i'] at q'
  exact ⟨W, 0, q, q'⟩
theorem mn_min (a b : Int) : mn a b = min a b := by unfold mn; split <;> omega
/-- Back. -/
theorem back_same (n e : Int) (n0 : -9223372036854775808 ≤ n) (n1 : n < 9223372036854775808) (e0 : -9223372036854775808 ≤ e) (e1 : e < 9223372036854775808) : ∃ W : Nat, Evl (fun k => scale_Back.f k n e) W ∧ Evl (fun k => compassref02_Back.f k n e) (W : Int) := by
  have s1 := size_f n n0 n1
  have s2 := refsize_f n n0 n1
  by_cases hn : n = 0
  · subst hn
    refine ⟨0, Evl.pure.congr (fun k => ?_), ?_⟩
    · unfold scale_Back.f
      rw [s1, Option.bind_some]
      unfold scale_rounded.f
      rw [if_pos (by rfl), Option.bind_some]
    · have h2 : Evl (fun k => compassref02_Near.j2 k 0 e false 0 true) ((0 : Nat) : Int) := Evl.here fun k => by rw [compassref02_Near.j2, if_pos rfl]; rfl
      have h1 : Evl (fun k => compassref02_Near.j1 k 0 e false 0) ((0 : Nat) : Int) := h2.step fun k => by rw [compassref02_Near.j1, if_pos rfl]
      have h0 : Evl (fun k => compassref02_Near.j0 k 0 e false 0 false) ((0 : Nat) : Int) := h1.step fun k => by rw [compassref02_Near.j0, if_neg (by decide)]
      have h : Evl (fun k => compassref02_Near.f k false 0 e false) ((0 : Nat) : Int) := h0.congr fun k => by unfold compassref02_Near.f; rw [if_neg (by decide)]
      obtain ⟨K, hK⟩ := h
      refine ⟨K, fun k hk => ?_⟩
      have nk : compassref02_Near.f k false 0 e false = _ := hK k hk
      show compassref02_Back.f k 0 e = _
      unfold compassref02_Back.f
      rw [s2, Option.bind_some, show decide ((0 : Int) < 0) = false from rfl]
      show (compassref02_Near.f k false 0 e false).bind _ = _
      rw [nk, Option.bind_some]
  · refine ⟨nr (decide (n < 0)) n.natAbs (min (max e (-1400)) 1400) false, ?_, ?_⟩
    · refine ⟨3, fun k hk => ?_⟩
      obtain ⟨m, rfl⟩ : ∃ m, k = m + 3 := ⟨k - 3, by omega⟩
      show scale_Back.f (m + 3) n e = _
      unfold scale_Back.f
      rw [s1, Option.bind_some, mn_min, mx_max, rounded_f m _ _ _ _ (by omega) (by omega) (by omega) (by omega), Option.bind_some]
    · obtain ⟨K, hK⟩ := near_f (decide (n < 0)) n.natAbs e false (by omega) (by omega) e0 e1
      refine ⟨K, fun k hk => ?_⟩
      have nk : compassref02_Near.f k (decide (n < 0)) (n.natAbs : Int) e false = _ := hK k hk
      show compassref02_Back.f k n e = _
      unfold compassref02_Back.f
      rw [s2, Option.bind_some, nk, Option.bind_some]
end Go.Proofs.YtdkhaibibpekoaaDoor.Pure
