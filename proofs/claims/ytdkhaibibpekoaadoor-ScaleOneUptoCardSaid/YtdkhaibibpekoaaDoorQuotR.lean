/- A fraction told as the nearest float64: what it is, that there is one, and that Quotient answers it. -/
import Derived.Test.YtdkhaibibpekoaaDoorQ12
import Derived.Test.YtdkhaibibpekoaaDoorQ13
import Derived.Test.YtdkhaibibpekoaaDoorQ14
import Derived.Test.YtdkhaibibpekoaaDoorQ6
import Derived.Test.YtdkhaibibpekoaaDoorQuotP
namespace Go.Flt
set_option linter.unusedVariables false
/-- The word of a / b, rounded at the place where it has 53 bits. -/
def IsNear (s : Bool) (a b W : Nat) : Prop := ∃ up c : Nat, 2 ^ (52 + c) * b ≤ a * 2 ^ up ∧ a * 2 ^ up < 2 ^ (53 + c) * b ∧ W = wd s (rq (a * 2 ^ up) (b * 2 ^ c)) ((c : Int) - up)
theorem pow_of_lt {x y b : Nat} (h : 2 ^ x * b < 2 ^ y * b) : x < y := by
  have h' := Nat.lt_of_mul_lt_mul_right h
  exact (Nat.pow_lt_pow_iff_right (by decide)).1 h'
theorem IsNear.unique {s : Bool} {a b W W' : Nat} (h : IsNear s a b W) (h' : IsNear s a b W') : W = W' := by
  obtain ⟨u, c, l1, l2, rfl⟩ := h
  obtain ⟨u', c', r1, r2, rfl⟩ := h'
  have e1 : 52 + c + u' < 53 + c' + u := by
    refine pow_of_lt (b := b) ?_
    have x := Nat.mul_le_mul_right (2 ^ u') l1
    have y := Nat.mul_lt_mul_of_pos_right r2 (Nat.two_pow_pos u)
    rw [Nat.mul_right_comm, ← Nat.pow_add, Nat.mul_right_comm a] at x
    rw [Nat.mul_right_comm (2 ^ (53 + c')), ← Nat.pow_add] at y
    exact Nat.lt_of_le_of_lt x y
  have e2 : 52 + c' + u < 53 + c + u' := by
    refine pow_of_lt (b := b) ?_
    have x := Nat.mul_le_mul_right (2 ^ u) r1
    have y := Nat.mul_lt_mul_of_pos_right l2 (Nat.two_pow_pos u')
    rw [Nat.mul_right_comm, ← Nat.pow_add, Nat.mul_right_comm a] at x
    rw [Nat.mul_right_comm (2 ^ (53 + c)), ← Nat.pow_add] at y
    exact Nat.lt_of_le_of_lt x y
  have sc : ∀ (u c t : Nat), rq (a * 2 ^ (u + t)) (b * 2 ^ (c + t)) = rq (a * 2 ^ u) (b * 2 ^ c) := fun u c t => by
    rw [← rq_scale (2 ^ t) (a * 2 ^ u) (b * 2 ^ c) (Nat.two_pow_pos t), Nat.pow_add, Nat.pow_add, ← Nat.mul_assoc, ← Nat.mul_assoc, Nat.mul_comm (2 ^ t), Nat.mul_comm (2 ^ t)]
  have p : ((c : Int) - u) = ((c' : Int) - u') := by omega
  rw [p]
  congr 1
  by_cases q : u ≤ u'
  · obtain ⟨t, rfl⟩ : ∃ t, u' = u + t := ⟨u' - u, by omega⟩
    obtain rfl : c' = c + t := by omega
    exact (sc u c t).symm
  · obtain ⟨t, rfl⟩ : ∃ t, u = u' + t := ⟨u - u', by omega⟩
    obtain rfl : c = c' + t := by omega
    exact sc u' c' t
/-- A quotient that has at least 54 bits, cut with a word on the rest, is near. -/
theorem near_of_nr (s : Bool) (a b up : Nat) (hb : 0 < b) (h0 : 18014398509481984 ≤ a * 2 ^ up / b) (h1 : a * 2 ^ up / b < 18446744073709551616) (hu : up ≤ 1000) : IsNear s a b (nr s (a * 2 ^ up / b) (-(up : Int)) (a * 2 ^ up % b != 0)) := by
  obtain ⟨b0, b1, b2, b3⟩ := bitLen_bounds (a * 2 ^ up / b) (by omega) h1
  have b4 : 55 ≤ Lib.bitLen (a * 2 ^ up / b) := by
    by_cases c : 55 ≤ Lib.bitLen (a * 2 ^ up / b)
    · exact c
    · have : 2 ^ Lib.bitLen (a * 2 ^ up / b) ≤ 2 ^ 54 := Nat.pow_le_pow_right (by decide) (by omega)
      omega
  unfold nr
  obtain ⟨c, hc⟩ : ∃ c, Lib.bitLen (a * 2 ^ up / b) = c + 53 := ⟨Lib.bitLen (a * 2 ^ up / b) - 53, by omega⟩
  rw [hc] at b1 b2 b3 b4 ⊢
  have m : max (((c + 53 : Nat) : Int) - 53) (-1074 - -(up : Int)) = (c : Int) := by omega
  rw [m, if_pos (by omega), Int.toNat_natCast, rm_rest _ _ _ hb (by omega)]
  refine ⟨up, c, ?_, ?_, by congr 1; omega⟩
  · rw [show c + 53 - 1 = 52 + c by omega] at b2
    exact (Nat.le_div_iff_mul_le hb).1 b2
  · rw [show c + 53 = 53 + c by omega] at b3
    exact (Nat.div_lt_iff_lt_mul hb).1 b3
end Go.Flt
namespace Go.Proofs.YtdkhaibibpekoaaDoor.Pure
open Go.RowKit Go.Flt Go.Proofs.YtdkhaibibpekoaaDoor.Q Go.Proofs.YtdkhaibibpekoaaDoorW.PrintWords Go.Proofs.YtdkhaibibpekoaaDoorW.PrintLast Go.Proofs.YtdkhaibibpekoaaDoorW.PrintMore
set_option linter.unusedVariables false
theorem size_f (n : Int) (h0 : -9223372036854775808 ≤ n) (h1 : n < 9223372036854775808) : scale_size.f n = some (n.natAbs : Int) := by
  unfold scale_size.f
  simp only [IntKind.wrap_u64]
  by_cases c : n < 0
  · rw [if_pos c]; congr 1; omega
  · rw [if_neg c]; congr 1; omega
theorem shifted_f (a up : Nat) (ha : a < 18446744073709551616) (hu : up ≤ 126) (h : a * 2 ^ up < 340282366920938463463374607431768211456) : scale_shifted.f (a : Int) (up : Int) = some (((a * 2 ^ up / 18446744073709551616 : Nat) : Int), ((a * 2 ^ up % 18446744073709551616 : Nat) : Int)) := by
  unfold scale_shifted.f
  by_cases c : up ≥ 64
  · obtain ⟨t, rfl⟩ : ∃ t, up = 64 + t := ⟨up - 64, by omega⟩
    have e : a * 2 ^ (64 + t) = 18446744073709551616 * (a * 2 ^ t) := by rw [Nat.pow_add, Nat.mul_left_comm]
    have l : a * 2 ^ t < 18446744073709551616 := by omega
    rw [if_pos (by omega), w64 (by omega) (by omega), if_pos (by omega), show (((64 + t : Nat) : Int) - 64) = (t : Int) by omega, shl_u64 a t (by omega), e, Nat.mod_eq_of_lt l, Nat.mul_div_cancel_left _ (by decide), Nat.mul_mod_right]
    rfl
  · rw [if_neg (by omega), w64 (by omega) (by omega), if_pos (by omega), if_pos (by omega), show (64 - (up : Int)) = ((64 - up : Nat) : Int) by omega, shr_u64 a _ (by omega), shl_u64 a up (by omega)]
    have e : a * 2 ^ up / 18446744073709551616 = a / 2 ^ (64 - up) := by
      rw [show (18446744073709551616 : Nat) = 2 ^ up * 2 ^ (64 - up) by rw [← Nat.pow_add, show up + (64 - up) = 64 by omega], Nat.mul_comm a, Nat.mul_div_mul_left _ _ (Nat.two_pow_pos _)]
    rw [e]
theorem Quotient_f (n d : Int) (n0 : -9223372036854775808 ≤ n) (n1 : n < 9223372036854775808) (d0 : -9223372036854775808 ≤ d) (d1 : d < 9223372036854775808) (hn : n ≠ 0) (hd : d ≠ 0) :
    ∃ W, IsNear ((decide (n < 0)) != (decide (d < 0))) n.natAbs d.natAbs W ∧ Evl (fun k => scale_Quotient.f k n d) (W, 0) := by
  obtain ⟨a, ea⟩ : ∃ a, a = n.natAbs := ⟨_, rfl⟩
  obtain ⟨b, eb⟩ : ∃ b, b = d.natAbs := ⟨_, rfl⟩
  have sa := size_f n n0 n1
  have sb := size_f d d0 d1
  rw [← ea] at sa ⊢
  rw [← eb] at sb ⊢
  have a0 : 0 < a := by omega
  have a1 : a < 18446744073709551616 := by omega
  have b0 : 0 < b := by omega
  have b1 : b < 18446744073709551616 := by omega
  clear ea eb
  obtain ⟨p0, p1, p2, p3⟩ := bitLen_bounds a a0 a1
  obtain ⟨q0, q1, q2, q3⟩ := bitLen_bounds b b0 b1
  have la := len_f a a1
  have lb := len_f b b1
  generalize Lib.bitLen a = x at *
  generalize Lib.bitLen b = y at *
  obtain ⟨up, eu⟩ : ∃ up, up = 63 + y - x := ⟨_, rfl⟩
  have lo : 2 ^ (62 + y) ≤ a * 2 ^ up := by
    have := Nat.mul_le_mul_right (2 ^ up) p2
    rw [← Nat.pow_add, show x - 1 + up = 62 + y by omega] at this
    exact this
  have hi : a * 2 ^ up < 2 ^ (63 + y) := by
    have := Nat.mul_lt_mul_of_pos_right p3 (Nat.two_pow_pos up)
    rw [← Nat.pow_add, show x + up = 63 + y by omega] at this
    exact this
  have h128 : 2 ^ (63 + y) ≤ 2 ^ 127 := Nat.pow_le_pow_right (by decide) (by omega)
  have Q0 : 18014398509481984 ≤ a * 2 ^ up / b := by
    rw [Nat.le_div_iff_mul_le b0]
    have := Nat.mul_le_mul_left (2 ^ 62) (Nat.le_of_lt q3)
    rw [← Nat.pow_add] at this
    omega
  have Q1 : a * 2 ^ up / b < 18446744073709551616 := by
    rw [Nat.div_lt_iff_lt_mul b0]
    have := Nat.mul_le_mul_left (2 ^ 64) q2
    rw [← Nat.pow_add, show 64 + (y - 1) = 63 + y by omega] at this
    omega
  have hib : a * 2 ^ up / 18446744073709551616 < b := by
    rw [Nat.div_lt_iff_lt_mul (by decide)]
    have := (Nat.div_lt_iff_lt_mul b0).1 Q1
    rw [Nat.mul_comm 18446744073709551616] at this
    exact this
  have dv := Div64_f (a * 2 ^ up / 18446744073709551616) (a * 2 ^ up % 18446744073709551616) b hib b1 (Nat.mod_lt _ (by decide))
  have jn : a * 2 ^ up / 18446744073709551616 * 18446744073709551616 + a * 2 ^ up % 18446744073709551616 = a * 2 ^ up := by
    have := Nat.div_add_mod (a * 2 ^ up) 18446744073709551616
    omega
  rw [jn] at dv
  refine ⟨_, near_of_nr ((decide (n < 0)) != (decide (d < 0))) a b up b0 Q0 Q1 (by omega), ?_⟩
  have sh := shifted_f a up a1 (by omega) (by omega)
  have rd : ∀ k, scale_rounded.f (k + 3) ((decide (n < 0)) != (decide (d < 0))) ((a * 2 ^ up / b : Nat) : Int) (-(up : Int)) (((a * 2 ^ up % b : Nat) : Int) != 0) = some (nr ((decide (n < 0)) != (decide (d < 0))) (a * 2 ^ up / b) (-(up : Int)) (a * 2 ^ up % b != 0)) := fun k => by
    rw [rounded_f k _ _ _ _ (by omega) Q1 (by omega) (by omega)]
    congr 2
    by_cases z : a * 2 ^ up % b = 0
    · rw [z]; rfl
    · rw [bne_iff_ne.mpr z, bne_iff_ne.mpr (by omega)]
  have up_eq : (wrap64 ((wrap64 (63 - (x : Int))) + (y : Int))) = (up : Int) := by
    rw [w64 (a := 63 - (x : Int)) (by omega) (by omega), w64 (by omega) (by omega)]; omega
  have ng : wrap64 (-(up : Int)) = -(up : Int) := w64 (by omega) (by omega)
  obtain ⟨K, hK⟩ := dv
  refine ⟨K + 3, fun k hk => ?_⟩
  obtain ⟨m, rfl⟩ : ∃ m, k = m + 3 := ⟨k - 3, by omega⟩
  have dk : bits_Div64.f (m + 3) ((a * 2 ^ up / 18446744073709551616 : Nat) : Int) ((a * 2 ^ up % 18446744073709551616 : Nat) : Int) (b : Int) = _ := hK (m + 3) (by omega)
  show scale_Quotient.f (m + 3) n d = _
  unfold scale_Quotient.f
  rw [if_neg hd, sa, Option.bind_some, sb, Option.bind_some, if_neg (by omega), la, Option.bind_some, lb, Option.bind_some, up_eq, sh, Option.bind_some]
  simp only
  rw [dk, Option.bind_some, ng]
  simp only
  rw [rd m, Option.bind_some]
theorem Quotient_zero (d : Int) (d0 : -9223372036854775808 ≤ d) (d1 : d < 9223372036854775808) (hd : d ≠ 0) (k : Nat) : scale_Quotient.f k 0 d = some (0, 0) := by
  unfold scale_Quotient.f
  rw [if_neg hd, size_f 0 (by decide) (by decide), Option.bind_some, size_f d d0 d1, Option.bind_some, if_pos (by rfl)]
theorem Quotient_none (n : Int) (k : Nat) : scale_Quotient.f k n 0 = some (0, 11) := by
  unfold scale_Quotient.f
  rw [if_pos rfl]
end Go.Proofs.YtdkhaibibpekoaaDoor.Pure
