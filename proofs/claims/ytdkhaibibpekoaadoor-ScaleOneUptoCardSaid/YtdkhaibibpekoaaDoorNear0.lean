/- Words read back, and held against each other: out of the text of ScaleNear. -/
import Derived.Test.YtdkhaibibpekoaaDoorQuotR
namespace Go.Flt
set_option linter.unusedVariables false
theorem wd_word (s : Bool) (M : Nat) (p : Int) : ∃ r, r ≤ 9218868437227405312 ∧ wd s M p = Ieee.double.word s r ∧ (0 < M → 0 < r) := ⟨_, Nat.min_le_right _ _, rfl, fun h => by omega⟩
theorem word_parts (s : Bool) (r : Nat) (h : r ≤ 9218868437227405312) : ng (Ieee.double.word s r) = s ∧ rg (Ieee.double.word s r) = r := by
  unfold Ieee.Format.word ng rg
  rw [sw]
  cases s
  · rw [if_neg (by decide), Nat.div_eq_of_lt (by omega)]; exact ⟨rfl, by omega⟩
  · rw [if_pos rfl, show (9223372036854775808 + r) / 9223372036854775808 = 1 by omega]; exact ⟨rfl, by omega⟩
theorem order_word (s t : Bool) (r q : Nat) (h : r ≤ 9218868437227405312) (h' : q ≤ 9218868437227405312) : FloatKind.f64.format.order (Ieee.double.word s r) (Ieee.double.word t q) = some (co (sv s r) (sv t q)) := by
  obtain ⟨a, b⟩ := word_parts s r h
  obtain ⟨c, d⟩ := word_parts t q h'
  rw [order_eq]
  unfold nan iv
  rw [a, b, c, d, if_neg (by simp; omega)]
theorem order_same (s : Bool) (M : Nat) (p : Int) : (FloatKind.f64.format.order (wd s M p) (wd s M p) == some .eq) = true := by
  obtain ⟨r, h, e, -⟩ := wd_word s M p
  rw [e, order_word s s r r h h]
  unfold co
  rw [if_neg (by omega), if_pos rfl]; rfl
theorem order_neg (s : Bool) (M : Nat) (p : Int) (h0 : 0 < M) : (FloatKind.f64.format.order (wd s M p) 0 == some .lt) = s := by
  obtain ⟨r, h, e, hr⟩ := wd_word s M p
  have z : (0 : Nat) = Ieee.double.word false 0 := rfl
  have := hr h0
  rw [e]
  conv => lhs; rw [z]
  rw [order_word s false r 0 h (by decide)]
  unfold co sv
  cases s
  · rw [if_neg (by simp), if_neg (by simp; omega)]; rfl
  · rw [if_pos (by simp; omega)]; rfl
/-- A whole number below 2^53 as a float64. -/
theorem whole_wd (m : Nat) (h0 : 0 < m) (h1 : m < 9007199254740992) : ∃ L : Nat, L ≤ 52 ∧ 4503599627370496 ≤ m * 2 ^ (52 - L) ∧ m * 2 ^ (52 - L) < 9007199254740992 ∧ ∀ s : Bool, Ieee.double.nearest s m 0 = wd s (m * 2 ^ (52 - L)) ((L : Int) - 52) := by
  have l1 := Nat.log2_self_le (n := m) (by omega)
  have l2 := Nat.lt_log2_self (n := m)
  have hl : m.log2 ≤ 52 := by
    by_cases c : m.log2 ≤ 52
    · exact c
    · have := Nat.pow_le_pow_right (n := 2) (by decide) (show 53 ≤ m.log2 by omega)
      omega
  have hp := Nat.two_pow_pos (52 - m.log2)
  have m1 := Nat.mul_le_mul_right (2 ^ (52 - m.log2)) l1
  have m2 := Nat.mul_lt_mul_of_pos_right l2 hp
  rw [← Nat.pow_add, show m.log2 + (52 - m.log2) = 52 by omega] at m1
  rw [← Nat.pow_add, show m.log2 + 1 + (52 - m.log2) = 53 by omega] at m2
  refine ⟨m.log2, hl, m1, m2, fun s => ?_⟩
  rw [← nearest_shift s m (52 - m.log2) 0, nearest_wd0 _ _ _ m2 (by omega) (Or.inr m1)]
  congr 1
  omega
theorem floatOf (n : Int) : floatOfInt .f64 n = Ieee.double.nearest (decide (n < 0)) n.natAbs 0 := rfl
theorem read_wd (s : Bool) (M : Nat) (p : Int) (h0 : 4503599627370496 ≤ M) (h1 : M < 9007199254740992) (hp : -1074 ≤ p) (hp2 : p ≤ 971) : Ieee.double.read (wd s M p) = .number s M p := by
  have l : (p + 1074).toNat * 4503599627370496 + M < 9218868437227405312 := by omega
  unfold wd
  rw [Nat.min_eq_left (by omega)]
  obtain ⟨a, b⟩ := word_parts s ((p + 1074).toNat * 4503599627370496 + M) (by omega)
  rw [read_num _ (by rw [b]; exact l), a, b]
  have e1 : mm ((p + 1074).toNat * 4503599627370496 + M) = M := by unfold mm; rw [if_neg (by omega)]; omega
  have e2 : mp ((p + 1074).toNat * 4503599627370496 + M) = (p + 1074).toNat := by unfold mp; omega
  rw [e1, e2]
  congr 1
  omega
/-- The quotient of the language is near. -/
theorem quo_near (s t : Bool) (a b : Nat) (a0 : 0 < a) (a1 : a < 9007199254740992) (b0 : 0 < b) (b1 : b < 9007199254740992) :
    ∃ W, Go.floatBits .quo .f64 (Ieee.double.nearest s a 0) (Ieee.double.nearest t b 0) = some W ∧ IsNear (s ^^ t) a b W := by
  obtain ⟨x, x1, x2, x3, x4⟩ := whole_wd a a0 a1
  obtain ⟨y, y1, y2, y3, y4⟩ := whole_wd b b0 b1
  obtain ⟨m, em⟩ : ∃ m, m = a * 2 ^ (52 - x) := ⟨_, rfl⟩
  obtain ⟨n, en⟩ : ∃ n, n = b * 2 ^ (52 - y) := ⟨_, rfl⟩
  rw [← em] at x2 x3 x4
  rw [← en] at y2 y3 y4
  have lm : m.log2 = 52 := (Nat.log2_eq_iff (by omega)).2 ⟨by omega, by omega⟩
  have ln : n.log2 = 52 := (Nat.log2_eq_iff (by omega)).2 ⟨by omega, by omega⟩
  show ∃ W, Ieee.double.div _ _ = some W ∧ _
  unfold Ieee.Format.div
  rw [x4, y4, read_wd s m _ x2 x3 (by omega) (by omega), read_wd t n _ y2 y3 (by omega) (by omega)]
  unfold Ieee.Datum.quotient
  simp only
  rw [if_neg (by omega), lm, ln, Nat.shiftLeft_eq]
  show ∃ W, some (Ieee.double.nearest (s ^^ t) (2 * (m * 2 ^ 54 / n) + (m * 2 ^ 54 % n != 0).toNat) ((x : Int) - 52 - ((y : Int) - 52) - ((54 : Nat) : Int) - 1)) = some W ∧ _
  refine ⟨_, rfl, ?_⟩
  have n0 : 0 < n := by omega
  obtain ⟨q, eq⟩ : ∃ q, q = m * 2 ^ 54 / n := ⟨_, rfl⟩
  have qlo : 9007199254740992 ≤ q := by rw [eq, Nat.le_div_iff_mul_le n0]; omega
  have hs : (m * 2 ^ 54 % n != 0).toNat ≤ 1 := by cases (m * 2 ^ 54 % n != 0) <;> decide
  obtain ⟨st, est⟩ : ∃ st, st = (m * 2 ^ 54 % n != 0).toNat := ⟨_, rfl⟩
  obtain ⟨g, eg⟩ : ∃ g, g = (2 * q + st).log2 := ⟨_, rfl⟩
  rw [← est] at hs
  have g1 := Nat.log2_self_le (n := 2 * q + st) (by omega)
  have g2 := Nat.lt_log2_self (n := 2 * q + st)
  rw [← eg] at g1 g2
  have g3 : 54 ≤ g := by
    by_cases c : 54 ≤ g
    · exact c
    · have := Nat.pow_le_pow_right (n := 2) (by decide) (show g + 1 ≤ 54 by omega)
      omega
  obtain ⟨c, rfl⟩ : ∃ c, g = c + 53 := ⟨g - 53, by omega⟩
  have p1 : 2 ^ (c + 53) = 2 * 2 ^ (c + 52) := by rw [show c + 53 = c + 52 + 1 by omega, Nat.pow_succ, Nat.mul_comm]
  have p2 : 2 ^ (c + 53 + 1) = 2 * 2 ^ (c + 53) := by rw [Nat.pow_succ, Nat.mul_comm]
  have k1 : 2 ^ (c + 52) ≤ q := by omega
  have k2 : q < 2 ^ (c + 53) := by omega
  rw [eq, Nat.le_div_iff_mul_le n0] at k1
  rw [eq, Nat.div_lt_iff_lt_mul n0] at k2
  have stq := rq_sticky (m * 2 ^ 54) n c n0 (by omega)
  rw [← eq, ← est] at stq
  refine ⟨(52 - x) + 54, (52 - y) + c, ?_, ?_, ?_⟩
  · rw [Nat.pow_add 2 (52 - x), ← Nat.mul_assoc, ← em, show 52 + (52 - y + c) = (c + 52) + (52 - y) by omega, Nat.pow_add, Nat.mul_assoc, Nat.mul_comm (2 ^ (52 - y)), ← en]
    exact k1
  · rw [Nat.pow_add 2 (52 - x), ← Nat.mul_assoc, ← em, show 53 + (52 - y + c) = (c + 53) + (52 - y) by omega, Nat.pow_add, Nat.mul_assoc, Nat.mul_comm (2 ^ (52 - y)), ← en]
    exact k2
  · rw [← eq, ← est, nearest_rn _ _ _ (by omega), ← eg]
    have c2 : c ≤ 60 := by
      have qhi : q < 36028797018963968 := by rw [eq, Nat.div_lt_iff_lt_mul n0]; omega
      by_cases z : c ≤ 60
      · exact z
      · have := Nat.pow_le_pow_right (n := 2) (by decide) (show 61 ≤ c + 52 by omega)
        rw [← Nat.le_div_iff_mul_le n0, ← eq] at k1
        omega
    have e1 : max ((x : Int) - 52 - ((y : Int) - 52) - ((54 : Nat) : Int) - 1 + ((c + 53 : Nat) : Int) - 52) (-1074) = (((52 - y) + c : Nat) : Int) - (((52 - x) + 54 : Nat) : Int) := by omega
    rw [e1]
    unfold wd rn
    rw [show ((x : Int) - 52 - ((y : Int) - 52) - ((54 : Nat) : Int) - 1 - ((((52 - y) + c : Nat) : Int) - (((52 - x) + 54 : Nat) : Int))).toNat = 0 by omega, show ((((52 - y) + c : Nat) : Int) - (((52 - x) + 54 : Nat) : Int) - ((x : Int) - 52 - ((y : Int) - 52) - ((54 : Nat) : Int) - 1)).toNat = c + 1 by omega, Nat.pow_zero, Nat.mul_one, Nat.one_mul, stq]
    rw [Nat.pow_add 2 (52 - x), ← Nat.mul_assoc, ← em, Nat.pow_add 2 (52 - y), ← Nat.mul_assoc, ← en]
theorem whole_near (s : Bool) (k b : Nat) (k0 : 0 < k) (k1 : k < 9007199254740992) (b0 : 0 < b) : IsNear s (k * b) b (Ieee.double.nearest s k 0) := by
  obtain ⟨x, x1, x2, x3, x4⟩ := whole_wd k k0 k1
  refine ⟨52 - x, 0, ?_, ?_, ?_⟩
  · rw [Nat.mul_right_comm]; exact Nat.mul_le_mul_right _ x2
  · rw [Nat.mul_right_comm]; exact Nat.mul_lt_mul_of_pos_right x3 b0
  · rw [x4, Nat.mul_right_comm, Nat.pow_zero, Nat.mul_one, rq_exact _ _ b0]
    congr 1
    omega
end Go.Flt
