/- Rounding to nearest: a fraction rounded to whole numbers, ties to even; what Ieee.nearest gives told by it; products and quotients. -/
import Derived.Test.YtdkhaibibpekoaaDoorFlt
namespace Go.Flt
set_option linter.unusedVariables false

/-- A / B to the nearest whole number, ties to even. -/
def rq (A B : Nat) : Nat := A / B + (if B < 2 * (A % B) ∨ (B = 2 * (A % B) ∧ A / B % 2 = 1) then 1 else 0)
theorem rq_one (A : Nat) : rq A 1 = A := by
  unfold rq
  rw [Nat.div_one, Nat.mod_one, if_neg (by omega)]; rfl
theorem rq_scale (k A B : Nat) (h : 0 < k) : rq (k * A) (k * B) = rq A B := by
  unfold rq
  rw [Nat.mul_div_mul_left _ _ h, Nat.mul_mod_mul_left]
  have e1 : (k * B < 2 * (k * (A % B))) ↔ (B < 2 * (A % B)) := by
    rw [Nat.mul_left_comm]
    exact Nat.mul_lt_mul_left h
  have e2 : (k * B = 2 * (k * (A % B))) ↔ (B = 2 * (A % B)) := by
    rw [Nat.mul_left_comm]
    exact Nat.mul_right_inj (by omega)
  simp only [e1, e2]
theorem rq_exact (A B : Nat) (h : 0 < B) : rq (A * B) B = A := by
  rw [Nat.mul_comm]
  have := rq_scale B A 1 h
  rw [Nat.mul_one, rq_one] at this
  exact this
/-- Cut at a bit, with a word on what is left over below. -/
def rm (N c : Nat) (more : Bool) : Nat := N / 2 ^ c + (if 2 ^ c < 2 * (N % 2 ^ c) ∨ (2 ^ c = 2 * (N % 2 ^ c) ∧ (more = true ∨ N / 2 ^ c % 2 = 1)) then 1 else 0)
theorem rm_false (N c : Nat) : rm N c false = rq N (2 ^ c) := by
  unfold rm rq
  simp
/-- A quotient that is cut, then rounded with a word on the rest, is the fraction rounded. -/
theorem rm_rest (D n c : Nat) (hn : 0 < n) (hc : 0 < c) : rm (D / n) c (D % n != 0) = rq D (n * 2 ^ c) := by
  obtain ⟨c, rfl⟩ : ∃ m, c = m + 1 := ⟨c - 1, by omega⟩
  unfold rm rq
  have hp : 0 < 2 ^ c := Nat.two_pow_pos c
  have e0 : 2 ^ (c + 1) = 2 * 2 ^ c := by rw [Nat.pow_succ, Nat.mul_comm]
  rw [e0]
  generalize 2 ^ c = P at hp
  have e1 : D / (n * (2 * P)) = D / n / (2 * P) := (Nat.div_div_eq_div_mul D n (2 * P)).symm
  have e2 : D % (n * (2 * P)) = D % n + n * (D / n % (2 * P)) := Nat.mod_mul
  rw [e1, e2]
  have hr : D % n < n := Nat.mod_lt _ hn
  generalize D / n / (2 * P) = U
  generalize D / n % (2 * P) = v
  generalize D % n = r at hr
  have key1 : (n * (2 * P) < 2 * (r + n * v)) ↔ (2 * P < 2 * v ∨ (2 * P = 2 * v ∧ 0 < r)) := by
    constructor
    · intro h
      by_cases a : P < v
      · left; omega
      · by_cases b : P = v
        · right; subst b; refine ⟨rfl, ?_⟩
          rw [Nat.mul_add] at h
          rw [Nat.mul_left_comm] at h
          omega
        · exfalso
          have : v + 1 ≤ P := by omega
          have := Nat.mul_le_mul_left n this
          rw [Nat.mul_add, Nat.mul_one] at this
          rw [Nat.mul_left_comm, Nat.mul_add] at h
          generalize n * v = X at *
          generalize n * P = Y at *
          omega
    · rintro (h | ⟨h, hr0⟩)
      · have : P + 1 ≤ v := by omega
        have := Nat.mul_le_mul_left n this
        rw [Nat.mul_add, Nat.mul_one] at this
        rw [Nat.mul_left_comm, Nat.mul_add]
        generalize n * v = X at *
        generalize n * P = Y at *
        omega
      · have : P = v := by omega
        subst this
        rw [Nat.mul_left_comm, Nat.mul_add]
        omega
  have key2 : (n * (2 * P) = 2 * (r + n * v)) ↔ (2 * P = 2 * v ∧ r = 0) := by
    constructor
    · intro h
      rw [Nat.mul_left_comm] at h
      have h' : n * P = r + n * v := by omega
      by_cases a : P = v
      · subst a; exact ⟨rfl, by omega⟩
      · exfalso
        rcases Nat.lt_or_gt_of_ne a with b | b
        · have := Nat.mul_lt_mul_of_pos_left b hn
          omega
        · have : v + 1 ≤ P := by omega
          have := Nat.mul_le_mul_left n this
          rw [Nat.mul_add, Nat.mul_one] at this
          omega
    · rintro ⟨h, hr0⟩
      have : P = v := by omega
      subst this; subst hr0
      rw [Nat.mul_left_comm]; omega
  simp only [key1, key2]
  congr 1
  by_cases a : 2 * P < 2 * v
  · rw [if_pos (Or.inl a), if_pos (Or.inl (Or.inl a))]
  · by_cases b : 2 * P = 2 * v
    · by_cases r0 : r = 0
      · subst r0
        simp [b]
      · rw [if_pos (Or.inr ⟨b, Or.inl (by simp [r0])⟩), if_pos (Or.inl (Or.inr ⟨b, by omega⟩))]
    · rw [if_neg (by omega), if_neg (by omega)]
/-- The quotient with one more bit that says whether anything is left over. -/
theorem rq_sticky (D n c : Nat) (hn : 0 < n) (hc : 0 < c) : rq (2 * (D / n) + (D % n != 0).toNat) (2 ^ (c + 1)) = rq D (n * 2 ^ c) := by
  rw [← rm_rest D n c hn hc]
  obtain ⟨c, rfl⟩ : ∃ m, c = m + 1 := ⟨c - 1, by omega⟩
  unfold rm rq
  have hp : 0 < 2 ^ c := Nat.two_pow_pos c
  have e0 : 2 ^ (c + 1 + 1) = 2 * (2 * 2 ^ c) := by rw [Nat.pow_succ, Nat.pow_succ]; omega
  have e1 : 2 ^ (c + 1) = 2 * 2 ^ c := by rw [Nat.pow_succ, Nat.mul_comm]
  rw [e0, e1]
  generalize 2 ^ c = P at hp
  have hs : (D % n != 0).toNat ≤ 1 := by cases (D % n != 0) <;> decide
  have hb : ((D % n != 0) = true) ↔ (D % n != 0).toNat = 1 := by cases (D % n != 0) <;> decide
  simp only [hb]
  generalize (D % n != 0).toNat = s at hs
  generalize D / n = q
  have e2 : (2 * q + s) / (2 * (2 * P)) = q / (2 * P) := by
    rw [← Nat.div_div_eq_div_mul]; congr 1; omega
  have e3 : (2 * q + s) % (2 * (2 * P)) = 2 * (q % (2 * P)) + s := by
    rw [Nat.mod_mul]
    have : (2 * q + s) / 2 = q := by omega
    rw [this]; omega
  rw [e2, e3]
  generalize q / (2 * P) = U
  generalize q % (2 * P) = v
  congr 1
  by_cases h : 2 * P < 2 * v ∨ (2 * P = 2 * v ∧ (s = 1 ∨ U % 2 = 1))
  · rw [if_pos h, if_pos (by omega)]
  · rw [if_neg h, if_neg (by omega)]
/-- Ieee's cut. -/
theorem cut_even (s : Bool) (n d : Nat) : Ieee.Toward.even.cut s n d = rq n (2 ^ d) := by
  unfold Ieee.Toward.cut rq
  simp only
  rw [Nat.shiftLeft_eq, Nat.one_mul]
  by_cases h : d ≤ n.log2 + 2
  · rw [Nat.min_eq_left h]
    generalize 2 ^ d = B
    congr 1
    by_cases c : B < 2 * (n % B) ∨ (B = 2 * (n % B) ∧ n / B % 2 = 1)
    · rw [if_pos c]
      rcases c with c | ⟨c1, c2⟩
      · rw [decide_eq_true c]; rfl
      · simp [c2, ← c1]
    · rw [if_neg c]
      have a : ¬ B < 2 * (n % B) := fun h => c (Or.inl h)
      have b : ¬ (B = 2 * (n % B) ∧ n / B % 2 = 1) := fun h => c (Or.inr h)
      rw [decide_eq_false a]
      by_cases e : B = 2 * (n % B)
      · have : ¬ n / B % 2 = 1 := fun h => b ⟨e, h⟩
        simp [this]
      · simp [e]
  · have hn : n < 2 ^ (n.log2 + 1) := Nat.lt_log2_self
    rw [Nat.min_eq_right (by omega)]
    have h1 : 2 ^ (n.log2 + 2) = 2 * 2 ^ (n.log2 + 1) := by rw [Nat.pow_succ, Nat.mul_comm]
    have h2 : 2 ^ (n.log2 + 2) ≤ 2 ^ d := Nat.pow_le_pow_right (by decide) (by omega)
    have g1 : n < 2 ^ (n.log2 + 2) := by omega
    have g2 : n < 2 ^ d := by omega
    have g3 : 2 * n < 2 ^ (n.log2 + 2) := by omega
    have g4 : 2 * n < 2 ^ d := by omega
    rw [Nat.div_eq_of_lt g1, Nat.mod_eq_of_lt g1, Nat.div_eq_of_lt g2, Nat.mod_eq_of_lt g2]
    rw [if_neg (by omega), decide_eq_false (by omega)]
    simp
/-- A / B times 2 to e, in units of 2 to p. -/
def rn (A B : Nat) (e p : Int) : Nat := rq (A * 2 ^ (e - p).toNat) (B * 2 ^ (p - e).toNat)
theorem rn_self (A : Nat) (e : Int) : rn A 1 e e = A := by
  unfold rn
  rw [Int.sub_self]
  simp [rq_one]
theorem rn_scale (k A B : Nat) (e p : Int) (h : 0 < k) : rn (k * A) (k * B) e p = rn A B e p := by
  unfold rn
  rw [Nat.mul_assoc, Nat.mul_assoc, rq_scale _ _ _ h]
theorem rn_shift (A B j : Nat) (e p : Int) : rn (A * 2 ^ j) B (e - j) p = rn A B e p := by
  unfold rn
  have hp : ∀ t : Nat, 0 < 2 ^ t := fun t => Nat.two_pow_pos t
  by_cases h1 : p ≤ e
  · by_cases h2 : p ≤ e - j
    · have a1 : (e - p).toNat = j + (e - j - p).toNat := by omega
      have a2 : (p - (e - j)).toNat = 0 := by omega
      have a3 : (p - e).toNat = 0 := by omega
      rw [a1, a2, a3, Nat.pow_add, Nat.mul_assoc]
    · have a1 : (e - j - p).toNat = 0 := by omega
      have a3 : (p - e).toNat = 0 := by omega
      rw [a1, a3]
      rw [← rq_scale (2 ^ (p - (e - j)).toNat) (A * 2 ^ (e - p).toNat) _ (hp _)]
      congr 1
      · have : j = (p - (e - j)).toNat + (e - p).toNat := by omega
        conv => lhs; rw [this]
        rw [Nat.pow_zero, Nat.mul_one, Nat.pow_add, Nat.mul_left_comm]
      · rw [Nat.pow_zero, Nat.mul_one, Nat.mul_comm]
  · have a1 : (e - j - p).toNat = 0 := by omega
    have a2 : (p - (e - j)).toNat = j + (p - e).toNat := by omega
    have a3 : (e - p).toNat = 0 := by omega
    rw [a1, a2, a3, ← rq_scale (2 ^ j) (A * 2 ^ 0) _ (hp _)]
    congr 1
    · rw [Nat.pow_zero, Nat.mul_one, Nat.mul_one, Nat.mul_comm]
    · rw [Nat.pow_add, Nat.mul_left_comm]
/-- What is nearest, by rn. -/
theorem nearest_rn (s : Bool) (m : Nat) (e : Int) (h : 0 < m) : Ieee.double.nearest s m e = Ieee.double.word s (min ((max (e + m.log2 - 52) (-1074) + 1074).toNat * 4503599627370496 + rn m 1 e (max (e + m.log2 - 52) (-1074))) 9218868437227405312) := by
  unfold Ieee.Format.nearest
  rw [if_neg (by omega)]
  simp only [lp, bn, ir]
  have fb : ((Ieee.double.fractionBits : Nat) : Int) = 52 := rfl
  rw [fb, cut_even, Nat.shiftLeft_eq]
  unfold rn
  rw [Nat.one_mul]
  congr 4
theorem nearest_zero (s : Bool) (e : Int) : Ieee.double.nearest s 0 e = Ieee.double.word s 0 := by
  unfold Ieee.Format.nearest
  rw [if_pos rfl]
theorem log2_shift (m j : Nat) (h : 0 < m) : (m * 2 ^ j).log2 = m.log2 + j := by
  have h1 := Nat.log2_self_le (n := m) (by omega)
  have h2 := Nat.lt_log2_self (n := m)
  have hp := Nat.two_pow_pos j
  refine (Nat.log2_eq_iff (Nat.mul_ne_zero (by omega) (by omega))).2 ⟨?_, ?_⟩
  · rw [Nat.pow_add]; exact Nat.mul_le_mul_right _ h1
  · rw [show m.log2 + j + 1 = (m.log2 + 1) + j by omega, Nat.pow_add]; exact Nat.mul_lt_mul_of_pos_right h2 hp
theorem nearest_shift (s : Bool) (m j : Nat) (e : Int) : Ieee.double.nearest s (m * 2 ^ j) (e - j) = Ieee.double.nearest s m e := by
  rcases Nat.eq_zero_or_pos m with rfl | h
  · rw [Nat.zero_mul, nearest_zero, nearest_zero]
  · rw [nearest_rn s m e h, nearest_rn s _ _ (Nat.mul_pos h (Nat.two_pow_pos j)), log2_shift m j h, rn_shift]
    have : e - (j : Int) + ((m.log2 + j : Nat) : Int) - 52 = e + m.log2 - 52 := by omega
    rw [this]
end Go.Flt
