import Derived.Laws.FloatArith
import Derived.Laws.Bits64b
import Derived.Laws.BitsLemmas
import Derived.RowKit
/- The order of float64 numbers, told by whole numbers: the bits' rung with its sign; and a key in which the order of all float64 is the order of whole numbers. -/
namespace Go.Flt
set_option linter.unusedVariables false

theorem sw : Ieee.double.signWeight = 9223372036854775808 := by decide
theorem bn : Ieee.double.binade = 4503599627370496 := by decide
theorem ir : Ieee.double.infRung = 9218868437227405312 := by decide
theorem lp : Ieee.double.leastPlace = -1074 := by decide
def ng (x : Nat) : Bool := x / 9223372036854775808 % 2 == 1
def rg (x : Nat) : Nat := x % 9223372036854775808
def mm (r : Nat) : Nat := if r < 4503599627370496 then r else 4503599627370496 + r % 4503599627370496
def mp (r : Nat) : Nat := r / 4503599627370496 - 1
def mv (r : Nat) : Nat := mm r * 2 ^ mp r
def nan (x : Nat) : Bool := decide (9218868437227405312 < rg x)
def sv (s : Bool) (r : Nat) : Int := if s = true then -(r : Int) else r
def iv (x : Nat) : Int := sv (ng x) (rg x)
def co (a b : Int) : Ordering := if a < b then .lt else if a = b then .eq else .gt

theorem read_num (x : Nat) (h : rg x < 9218868437227405312) : Ieee.double.read x = .number (ng x) (mm (rg x)) (-1074 + (mp (rg x) : Nat)) := by
  unfold Ieee.Format.read
  simp only [sw, bn, ir, lp]
  unfold rg at *
  unfold ng mm mp
  by_cases c : x % 9223372036854775808 < 4503599627370496
  · have e : x % 9223372036854775808 / 4503599627370496 - 1 = 0 := by omega
    rw [if_pos c, if_pos c, e]; rfl
  · rw [if_neg c, if_pos h, if_neg c]
theorem read_inf (x : Nat) (h : rg x = 9218868437227405312) : Ieee.double.read x = .infinity (ng x) := by
  unfold Ieee.Format.read
  simp only [sw, bn, ir, lp]
  unfold rg at *
  unfold ng
  rw [if_neg (by omega), if_neg (by omega), if_pos h]
theorem read_nan (x : Nat) (h : 9218868437227405312 < rg x) : Ieee.double.read x = .nan (ng x) (rg x - 9218868437227405312) := by
  unfold Ieee.Format.read
  simp only [sw, bn, ir, lp]
  unfold rg at *
  unfold ng
  rw [if_neg (by omega), if_neg (by omega), if_neg (by omega)]
theorem mv_lt (r : Nat) : mv r < 4503599627370496 * 2 ^ (r / 4503599627370496) := by
  unfold mv mm mp
  by_cases c : r < 4503599627370496
  · have e : r / 4503599627370496 = 0 := by omega
    rw [if_pos c, e]; simpa using c
  · have e : r / 4503599627370496 = (r / 4503599627370496 - 1) + 1 := by omega
    rw [if_neg c, e, Nat.add_sub_cancel, Nat.pow_succ]
    generalize r / 4503599627370496 - 1 = k
    have hp : 0 < 2 ^ k := Nat.two_pow_pos _
    have h1 : 4503599627370496 + r % 4503599627370496 < 9007199254740992 := by omega
    have h2 := Nat.mul_lt_mul_of_pos_right h1 hp
    generalize (4503599627370496 + r % 4503599627370496) * 2 ^ k = X at *
    omega
theorem mv_ge (r : Nat) (h : 4503599627370496 ≤ r) : 4503599627370496 * 2 ^ (r / 4503599627370496 - 1) ≤ mv r := by
  unfold mv mm mp
  rw [if_neg (by omega)]
  exact Nat.mul_le_mul_right _ (by omega)
theorem mv_mono {r s : Nat} (h : r < s) : mv r < mv s := by
  by_cases q : r / 4503599627370496 = s / 4503599627370496
  · unfold mv mp
    rw [q]
    refine Nat.mul_lt_mul_of_pos_right ?_ (Nat.two_pow_pos _)
    unfold mm
    split
    · split <;> omega
    · rw [if_neg (by omega)]; omega
  · have h1 : r / 4503599627370496 ≤ s / 4503599627370496 - 1 := by omega
    have h2 := mv_lt r
    have h3 := mv_ge s (by omega)
    have h4 : 2 ^ (r / 4503599627370496) ≤ 2 ^ (s / 4503599627370496 - 1) := Nat.pow_le_pow_right (by decide) h1
    have h5 := Nat.mul_le_mul_left 4503599627370496 h4
    exact Nat.lt_of_lt_of_le h2 (Nat.le_trans h5 h3)
theorem mv_zero : mv 0 = 0 := by decide
theorem mv_iff (r s : Nat) : (mv r < mv s ↔ r < s) ∧ (mv r = mv s ↔ r = s) := by
  rcases Nat.lt_trichotomy r s with h | h | h
  · have := mv_mono h; omega
  · subst h; simp
  · have := mv_mono h; omega
theorem mv_pos (r : Nat) : mv r = 0 ↔ r = 0 := by
  have := (mv_iff r 0).2; rw [mv_zero] at this; exact this
theorem co_sv (s t : Bool) (r q : Nat) : co (sv s (mv r)) (sv t (mv q)) = co (sv s r) (sv t q) := by
  obtain ⟨h1, h2⟩ := mv_iff r q
  have h3 := (mv_iff q r).1
  have h4 := mv_pos r
  have h5 := mv_pos q
  unfold co sv
  generalize mv r = R at *
  generalize mv q = Q at *
  cases s <;> cases t <;> simp only [if_true, if_false, Bool.false_eq_true] <;> (repeat' split) <;> first | rfl | omega
theorem co_mul (a b : Int) (c : Nat) : co (a * ((2 ^ c : Nat) : Int)) (b * ((2 ^ c : Nat) : Int)) = co a b := by
  have hp : (0 : Int) < ((2 ^ c : Nat) : Int) := by have := Nat.two_pow_pos c; omega
  unfold co
  rcases Int.lt_trichotomy a b with h | h | h
  · rw [if_pos h, if_pos (Int.mul_lt_mul_of_pos_right h hp)]
  · subst h; rw [if_neg (Int.lt_irrefl _), if_neg (Int.lt_irrefl _), if_pos rfl, if_pos rfl]
  · have h2 := Int.mul_lt_mul_of_pos_right h hp
    rw [if_neg (by omega), if_neg (by omega), if_neg (by omega), if_neg (by omega)]
theorem signed_eq (s : Bool) (m up : Nat) : Ieee.signed s m up = sv s (m * 2 ^ up) := by
  unfold Ieee.signed sv
  rw [Nat.shiftLeft_eq]
theorem sv_mul (s : Bool) (m k : Nat) : sv s m * (k : Int) = sv s (m * k) := by
  unfold sv
  split
  · rw [Int.natCast_mul, Int.neg_mul]
  · rw [Int.natCast_mul]
theorem compare_co (a b : Int) : compare a b = co a b := rfl
theorem order_num (x y : Nat) (hx : rg x < 9218868437227405312) (hy : rg y < 9218868437227405312) : Ieee.double.order x y = some (co (iv x) (iv y)) := by
  unfold Ieee.Format.order
  rw [read_num x hx, read_num y hy]
  unfold Ieee.Datum.order
  simp only [Option.some.injEq]
  rw [compare_co, signed_eq, signed_eq]
  generalize ha : mp (rg x) = a
  generalize hb : mp (rg y) = b
  have e1 : ((-1074 + (a : Int)) - min (-1074 + (a : Int)) (-1074 + (b : Int))).toNat = a - min a b := by omega
  have e2 : ((-1074 + (b : Int)) - min (-1074 + (a : Int)) (-1074 + (b : Int))).toNat = b - min a b := by omega
  rw [e1, e2, ← co_mul _ _ (min a b), sv_mul, sv_mul, Nat.mul_assoc, Nat.mul_assoc, ← Nat.pow_add, ← Nat.pow_add, Nat.sub_add_cancel (Nat.min_le_left a b), Nat.sub_add_cancel (Nat.min_le_right a b), ← ha, ← hb]
  exact co_sv _ _ _ _
theorem order_eq (x y : Nat) : FloatKind.f64.format.order x y = if nan x = true ∨ nan y = true then none else some (co (iv x) (iv y)) := by
  show Ieee.double.order x y = _
  unfold nan
  simp only [decide_eq_true_eq]
  by_cases nx : 9218868437227405312 < rg x
  · rw [if_pos (Or.inl nx)]
    unfold Ieee.Format.order
    rw [read_nan x nx]; rfl
  · by_cases ny : 9218868437227405312 < rg y
    · rw [if_pos (Or.inr ny)]
      unfold Ieee.Format.order
      rw [read_nan y ny]
      rcases Nat.lt_or_ge (rg x) 9218868437227405312 with h | h
      · rw [read_num x h]; rfl
      · rw [read_inf x (by omega)]; rfl
    · rw [if_neg (by omega)]
      rcases Nat.lt_or_ge (rg x) 9218868437227405312 with h | h
      · rcases Nat.lt_or_ge (rg y) 9218868437227405312 with h' | h'
        · exact order_num x y h h'
        · have ey : rg y = 9218868437227405312 := by omega
          unfold Ieee.Format.order
          rw [read_num x h, read_inf y ey]
          unfold Ieee.Datum.order iv sv co
          rw [ey]
          simp only [Option.some.injEq]
          cases ng x <;> cases ng y <;> simp only [if_true, if_false, Bool.false_eq_true] <;> (repeat' split) <;> first | rfl | omega
      · have ex : rg x = 9218868437227405312 := by omega
        rcases Nat.lt_or_ge (rg y) 9218868437227405312 with h' | h'
        · unfold Ieee.Format.order
          rw [read_inf x ex, read_num y h']
          unfold Ieee.Datum.order iv sv co
          rw [ex]
          simp only [Option.some.injEq]
          cases ng x <;> cases ng y <;> simp only [if_true, if_false, Bool.false_eq_true] <;> (repeat' split) <;> first | rfl | omega
        · have ey : rg y = 9218868437227405312 := by omega
          unfold Ieee.Format.order
          rw [read_inf x ex, read_inf y ey]
          unfold Ieee.Datum.order iv sv
          rw [ex, ey]
          cases ng x <;> cases ng y <;> decide
end Go.Flt
/- Rounding to nearest: a fraction rounded to whole numbers, ties to even; what Ieee.nearest gives told by it; products and quotients. -/
namespace Go.Flt
set_option linter.unusedVariables false

/-- A / B to the nearest whole number, ties to even. -/
def rq (A B : Nat) : Nat := A / B + (if B < 2 * (A % B) ∨ (B = 2 * (A % B) ∧ A / B % 2 = 1) then 1 else 0)
theorem rq_one (A : Nat) : rq A 1 = A := by
  unfold rq
  rw [Nat.div_one, Nat.mod_one, if_neg (by omega)]; rfl
theorem rq_scale (k A B : Nat) (h : 0 < k) : rq (k * A) (k * B) = rq A B := by
  unfold rq
  rw [Nat.mul_div_mul_left _ _ h, Nat.mul_mod_mul_left]
  have e1 : (k * B < 2 * (k * (A % B))) ↔ (B < 2 * (A % B)) := by
    rw [Nat.mul_left_comm]
    exact Nat.mul_lt_mul_left h
  have e2 : (k * B = 2 * (k * (A % B))) ↔ (B = 2 * (A % B)) := by
    rw [Nat.mul_left_comm]
    exact Nat.mul_right_inj (by omega)
  simp only [e1, e2]
theorem rq_exact (A B : Nat) (h : 0 < B) : rq (A * B) B = A := by
  rw [Nat.mul_comm]
  have := rq_scale B A 1 h
  rw [Nat.mul_one, rq_one] at this
  exact this
/-- Cut at a bit, with a word on what is left over below. -/
def rm (N c : Nat) (more : Bool) : Nat := N / 2 ^ c + (if 2 ^ c < 2 * (N % 2 ^ c) ∨ (2 ^ c = 2 * (N % 2 ^ c) ∧ (more = true ∨ N / 2 ^ c % 2 = 1)) then 1 else 0)
theorem rm_false (N c : Nat) : rm N c false = rq N (2 ^ c) := by
  unfold rm rq
  simp
/-- A quotient that is cut, then rounded with a word on the rest, is the fraction rounded. -/
theorem rm_rest (D n c : Nat) (hn : 0 < n) (hc : 0 < c) : rm (D / n) c (D % n != 0) = rq D (n * 2 ^ c) := by
  obtain ⟨c, rfl⟩ : ∃ m, c = m + 1 := ⟨c - 1, by omega⟩
  unfold rm rq
  have hp : 0 < 2 ^ c := Nat.two_pow_pos c
  have e0 : 2 ^ (c + 1) = 2 * 2 ^ c := by rw [Nat.pow_succ, Nat.mul_comm]
  rw [e0]
  generalize 2 ^ c = P at hp
  have e1 : D / (n * (2 * P)) = D / n / (2 * P) := (Nat.div_div_eq_div_mul D n (2 * P)).symm
  have e2 : D % (n * (2 * P)) = D % n + n * (D / n % (2 * P)) := Nat.mod_mul
  rw [e1, e2]
  have hr : D % n < n := Nat.mod_lt _ hn
  generalize D / n / (2 * P) = U
  generalize D / n % (2 * P) = v
  generalize D % n = r at hr
  have key1 : (n * (2 * P) < 2 * (r + n * v)) ↔ (2 * P < 2 * v ∨ (2 * P = 2 * v ∧ 0 < r)) := by
    constructor
    · intro h
      by_cases a : P < v
      · left; omega
      · by_cases b : P = v
        · right; subst b; refine ⟨rfl, ?_⟩
          rw [Nat.mul_add] at h
          rw [Nat.mul_left_comm] at h
          omega
        · exfalso
          have : v + 1 ≤ P := by omega
          have := Nat.mul_le_mul_left n this
          rw [Nat.mul_add, Nat.mul_one] at this
          rw [Nat.mul_left_comm, Nat.mul_add] at h
          generalize n * v = X at *
          generalize n * P = Y at *
          omega
    · rintro (h | ⟨h, hr0⟩)
      · have : P + 1 ≤ v := by omega
        have := Nat.mul_le_mul_left n this
        rw [Nat.mul_add, Nat.mul_one] at this
        rw [Nat.mul_left_comm, Nat.mul_add]
        generalize n * v = X at *
        generalize n * P = Y at *
        omega
      · have : P = v := by omega
        subst this
        rw [Nat.mul_left_comm, Nat.mul_add]
        omega
  have key2 : (n * (2 * P) = 2 * (r + n * v)) ↔ (2 * P = 2 * v ∧ r = 0) := by
    constructor
    · intro h
      rw [Nat.mul_left_comm] at h
      have h' : n * P = r + n * v := by omega
      by_cases a : P = v
      · subst a; exact ⟨rfl, by omega⟩
      · exfalso
        rcases Nat.lt_or_gt_of_ne a with b | b
        · have := Nat.mul_lt_mul_of_pos_left b hn
          omega
        · have : v + 1 ≤ P := by omega
          have := Nat.mul_le_mul_left n this
          rw [Nat.mul_add, Nat.mul_one] at this
          omega
    · rintro ⟨h, hr0⟩
      have : P = v := by omega
      subst this; subst hr0
      rw [Nat.mul_left_comm]; omega
  simp only [key1, key2]
  congr 1
  by_cases a : 2 * P < 2 * v
  · rw [if_pos (Or.inl a), if_pos (Or.inl (Or.inl a))]
  · by_cases b : 2 * P = 2 * v
    · by_cases r0 : r = 0
      · subst r0
        simp [b]
      · rw [if_pos (Or.inr ⟨b, Or.inl (by simp [r0])⟩), if_pos (Or.inl (Or.inr ⟨b, by omega⟩))]
    · rw [if_neg (by omega), if_neg (by omega)]
/-- The quotient with one more bit that says whether anything is left over. -/
theorem rq_sticky (D n c : Nat) (hn : 0 < n) (hc : 0 < c) : rq (2 * (D / n) + (D % n != 0).toNat) (2 ^ (c + 1)) = rq D (n * 2 ^ c) := by
  rw [← rm_rest D n c hn hc]
  obtain ⟨c, rfl⟩ : ∃ m, c = m + 1 := ⟨c - 1, by omega⟩
  unfold rm rq
  have hp : 0 < 2 ^ c := Nat.two_pow_pos c
  have e0 : 2 ^ (c + 1 + 1) = 2 * (2 * 2 ^ c) := by rw [Nat.pow_succ, Nat.pow_succ]; omega
  have e1 : 2 ^ (c + 1) = 2 * 2 ^ c := by rw [Nat.pow_succ, Nat.mul_comm]
  rw [e0, e1]
  generalize 2 ^ c = P at hp
  have hs : (D % n != 0).toNat ≤ 1 := by cases (D % n != 0) <;> decide
  have hb : ((D % n != 0) = true) ↔ (D % n != 0).toNat = 1 := by cases (D % n != 0) <;> decide
  simp only [hb]
  generalize (D % n != 0).toNat = s at hs
  generalize D / n = q
  have e2 : (2 * q + s) / (2 * (2 * P)) = q / (2 * P) := by
    rw [← Nat.div_div_eq_div_mul]; congr 1; omega
  have e3 : (2 * q + s) % (2 * (2 * P)) = 2 * (q % (2 * P)) + s := by
    rw [Nat.mod_mul]
    have : (2 * q + s) / 2 = q := by omega
    rw [this]; omega
  rw [e2, e3]
  generalize q / (2 * P) = U
  generalize q % (2 * P) = v
  congr 1
  by_cases h : 2 * P < 2 * v ∨ (2 * P = 2 * v ∧ (s = 1 ∨ U % 2 = 1))
  · rw [if_pos h, if_pos (by omega)]
  · rw [if_neg h, if_neg (by omega)]
/-- Ieee's cut. -/
theorem cut_even (s : Bool) (n d : Nat) : Ieee.Toward.even.cut s n d = rq n (2 ^ d) := by
  unfold Ieee.Toward.cut rq
  simp only
  rw [Nat.shiftLeft_eq, Nat.one_mul]
  by_cases h : d ≤ n.log2 + 2
  · rw [Nat.min_eq_left h]
    generalize 2 ^ d = B
    congr 1
    by_cases c : B < 2 * (n % B) ∨ (B = 2 * (n % B) ∧ n / B % 2 = 1)
    · rw [if_pos c]
      rcases c with c | ⟨c1, c2⟩
      · rw [decide_eq_true c]; rfl
      · simp [c2, ← c1]
    · rw [if_neg c]
      have a : ¬ B < 2 * (n % B) := fun h => c (Or.inl h)
      have b : ¬ (B = 2 * (n % B) ∧ n / B % 2 = 1) := fun h => c (Or.inr h)
      rw [decide_eq_false a]
      by_cases e : B = 2 * (n % B)
      · have : ¬ n / B % 2 = 1 := fun h => b ⟨e, h⟩
        simp [this]
      · simp [e]
  · have hn : n < 2 ^ (n.log2 + 1) := Nat.lt_log2_self
    rw [Nat.min_eq_right (by omega)]
    have h1 : 2 ^ (n.log2 + 2) = 2 * 2 ^ (n.log2 + 1) := by rw [Nat.pow_succ, Nat.mul_comm]
    have h2 : 2 ^ (n.log2 + 2) ≤ 2 ^ d := Nat.pow_le_pow_right (by decide) (by omega)
    have g1 : n < 2 ^ (n.log2 + 2) := by omega
    have g2 : n < 2 ^ d := by omega
    have g3 : 2 * n < 2 ^ (n.log2 + 2) := by omega
    have g4 : 2 * n < 2 ^ d := by omega
    rw [Nat.div_eq_of_lt g1, Nat.mod_eq_of_lt g1, Nat.div_eq_of_lt g2, Nat.mod_eq_of_lt g2]
    rw [if_neg (by omega), decide_eq_false (by omega)]
    simp
/-- A / B times 2 to e, in units of 2 to p. -/
def rn (A B : Nat) (e p : Int) : Nat := rq (A * 2 ^ (e - p).toNat) (B * 2 ^ (p - e).toNat)
theorem rn_self (A : Nat) (e : Int) : rn A 1 e e = A := by
  unfold rn
  rw [Int.sub_self]
  simp [rq_one]
theorem rn_scale (k A B : Nat) (e p : Int) (h : 0 < k) : rn (k * A) (k * B) e p = rn A B e p := by
  unfold rn
  rw [Nat.mul_assoc, Nat.mul_assoc, rq_scale _ _ _ h]
theorem rn_shift (A B j : Nat) (e p : Int) : rn (A * 2 ^ j) B (e - j) p = rn A B e p := by
  unfold rn
  have hp : ∀ t : Nat, 0 < 2 ^ t := fun t => Nat.two_pow_pos t
  by_cases h1 : p ≤ e
  · by_cases h2 : p ≤ e - j
    · have a1 : (e - p).toNat = j + (e - j - p).toNat := by omega
      have a2 : (p - (e - j)).toNat = 0 := by omega
      have a3 : (p - e).toNat = 0 := by omega
      rw [a1, a2, a3, Nat.pow_add, Nat.mul_assoc]
    · have a1 : (e - j - p).toNat = 0 := by omega
      have a3 : (p - e).toNat = 0 := by omega
      rw [a1, a3]
      rw [← rq_scale (2 ^ (p - (e - j)).toNat) (A * 2 ^ (e - p).toNat) _ (hp _)]
      congr 1
      · have : j = (p - (e - j)).toNat + (e - p).toNat := by omega
        conv => lhs; rw [this]
        rw [Nat.pow_zero, Nat.mul_one, Nat.pow_add, Nat.mul_left_comm]
      · rw [Nat.pow_zero, Nat.mul_one, Nat.mul_comm]
  · have a1 : (e - j - p).toNat = 0 := by omega
    have a2 : (p - (e - j)).toNat = j + (p - e).toNat := by omega
    have a3 : (e - p).toNat = 0 := by omega
    rw [a1, a2, a3, ← rq_scale (2 ^ j) (A * 2 ^ 0) _ (hp _)]
    congr 1
    · rw [Nat.pow_zero, Nat.mul_one, Nat.mul_one, Nat.mul_comm]
    · rw [Nat.pow_add, Nat.mul_left_comm]
/-- What is nearest, by rn. -/
theorem nearest_rn (s : Bool) (m : Nat) (e : Int) (h : 0 < m) : Ieee.double.nearest s m e = Ieee.double.word s (min ((max (e + m.log2 - 52) (-1074) + 1074).toNat * 4503599627370496 + rn m 1 e (max (e + m.log2 - 52) (-1074))) 9218868437227405312) := by
  unfold Ieee.Format.nearest
  rw [if_neg (by omega)]
  simp only [lp, bn, ir]
  have fb : ((Ieee.double.fractionBits : Nat) : Int) = 52 := rfl
  rw [fb, cut_even, Nat.shiftLeft_eq]
  unfold rn
  rw [Nat.one_mul]
  congr 4
theorem nearest_zero (s : Bool) (e : Int) : Ieee.double.nearest s 0 e = Ieee.double.word s 0 := by
  unfold Ieee.Format.nearest
  rw [if_pos rfl]
theorem log2_shift (m j : Nat) (h : 0 < m) : (m * 2 ^ j).log2 = m.log2 + j := by
  have h1 := Nat.log2_self_le (n := m) (by omega)
  have h2 := Nat.lt_log2_self (n := m)
  have hp := Nat.two_pow_pos j
  refine (Nat.log2_eq_iff (Nat.mul_ne_zero (by omega) (by omega))).2 ⟨?_, ?_⟩
  · rw [Nat.pow_add]; exact Nat.mul_le_mul_right _ h1
  · rw [show m.log2 + j + 1 = (m.log2 + 1) + j by omega, Nat.pow_add]; exact Nat.mul_lt_mul_of_pos_right h2 hp
theorem nearest_shift (s : Bool) (m j : Nat) (e : Int) : Ieee.double.nearest s (m * 2 ^ j) (e - j) = Ieee.double.nearest s m e := by
  rcases Nat.eq_zero_or_pos m with rfl | h
  · rw [Nat.zero_mul, nearest_zero, nearest_zero]
  · rw [nearest_rn s m e h, nearest_rn s _ _ (Nat.mul_pos h (Nat.two_pow_pos j)), log2_shift m j h, rn_shift]
    have : e - (j : Int) + ((m.log2 + j : Nat) : Int) - 52 = e + m.log2 - 52 := by omega
    rw [this]
end Go.Flt
/- Words of float64 put together and taken apart; products by a power of two; bits of 64. -/
namespace Go.Flt
set_option linter.unusedVariables false
set_option linter.unusedSimpArgs false

/-- M times 2 to p, M of 53 bits or p the least. -/
def wd (s : Bool) (M : Nat) (p : Int) : Nat := Ieee.double.word s (min ((p + 1074).toNat * 4503599627370496 + M) 9218868437227405312)
theorem nearest_wd0 (s : Bool) (M : Nat) (p : Int) (h : M < 9007199254740992) (h1 : -1074 ≤ p) (h2 : p = -1074 ∨ 4503599627370496 ≤ M) : Ieee.double.nearest s M p = wd s M p := by
  unfold wd
  rcases Nat.eq_zero_or_pos M with rfl | h0
  · rw [nearest_zero]
    have : p = -1074 := by omega
    subst this
    rfl
  · rw [nearest_rn s M p h0]
    have hl : M.log2 ≤ 52 := by
      have := Nat.log2_self_le (n := M) (by omega)
      by_cases c : M.log2 ≤ 52
      · exact c
      · have := Nat.pow_le_pow_right (n := 2) (by decide) (show 53 ≤ M.log2 by omega)
        omega
    have e : max (p + (M.log2 : Int) - 52) (-1074) = p := by
      rcases h2 with h2 | h2
      · subst h2; omega
      · have : M.log2 = 52 := (Nat.log2_eq_iff (by omega)).2 ⟨by omega, by omega⟩
        rw [this]; omega
    rw [e, rn_self]
theorem nearest_wd (s : Bool) (M : Nat) (p : Int) (h : M ≤ 9007199254740992) (h1 : -1074 ≤ p) (h2 : p = -1074 ∨ 4503599627370496 ≤ M) : Ieee.double.nearest s M p = wd s M p := by
  by_cases c : M = 9007199254740992
  · subst c
    have := nearest_shift s 4503599627370496 1 (p + 1)
    rw [show p + 1 - ((1 : Nat) : Int) = p by omega, show 4503599627370496 * 2 ^ 1 = 9007199254740992 by rfl] at this
    rw [this, nearest_wd0 s _ _ (by decide) (by omega) (Or.inr (by decide))]
    unfold wd
    have e : (p + 1 + 1074).toNat * 4503599627370496 + 4503599627370496 = (p + 1074).toNat * 4503599627370496 + 9007199254740992 := by omega
    rw [e]
  · exact nearest_wd0 s M p (by omega) h1 h2
/-- A whole number of 53 bits as a float64: its parts. -/
theorem whole_parts (m : Nat) (h0 : 0 < m) (h1 : m ≤ 9007199254740992) : ∃ L F : Nat, L ≤ 53 ∧ F < 4503599627370496 ∧ floatOfInt .f64 (m : Int) = (L + 1023) * 4503599627370496 + F ∧ ∀ (s : Bool) (e : Int), Ieee.double.nearest s m e = Ieee.double.nearest s (4503599627370496 + F) (e + L - 52) := by
  have fo : floatOfInt .f64 (m : Int) = Ieee.double.nearest false m 0 := by
    show Ieee.double.nearest (decide ((m : Int) < 0)) (m : Int).natAbs 0 = _
    rw [decide_eq_false (by omega), Int.natAbs_natCast]
  by_cases c : m = 9007199254740992
  · subst c
    have key : ∀ (s : Bool) (e : Int), Ieee.double.nearest s 9007199254740992 e = Ieee.double.nearest s (4503599627370496 + 0) (e + (53 : Nat) - 52) := fun s e => by
      have := nearest_shift s 4503599627370496 1 (e + 1)
      rw [show e + 1 - ((1 : Nat) : Int) = e by omega, show 4503599627370496 * 2 ^ 1 = 9007199254740992 by rfl] at this
      rw [this, show e + ((53 : Nat) : Int) - 52 = e + 1 by omega]
    refine ⟨53, 0, by omega, by omega, ?_, key⟩
    rw [fo, key, nearest_wd0 _ _ _ (by decide) (by decide) (Or.inr (by decide))]
    rfl
  · have l1 := Nat.log2_self_le (n := m) (by omega)
    have l2 := Nat.lt_log2_self (n := m)
    have hl : m.log2 ≤ 52 := by
      by_cases c : m.log2 ≤ 52
      · exact c
      · have := Nat.pow_le_pow_right (n := 2) (by decide) (show 53 ≤ m.log2 by omega)
        omega
    have hp := Nat.two_pow_pos (52 - m.log2)
    have m1 := Nat.mul_le_mul_right (2 ^ (52 - m.log2)) l1
    have m2 := Nat.mul_lt_mul_of_pos_right l2 hp
    rw [← Nat.pow_add, show m.log2 + (52 - m.log2) = 52 by omega] at m1
    rw [← Nat.pow_add, show m.log2 + 1 + (52 - m.log2) = 53 by omega] at m2
    obtain ⟨F, hF⟩ : ∃ F, m * 2 ^ (52 - m.log2) = 4503599627370496 + F := ⟨m * 2 ^ (52 - m.log2) - 4503599627370496, by omega⟩
    have key : ∀ (s : Bool) (e : Int), Ieee.double.nearest s m e = Ieee.double.nearest s (4503599627370496 + F) (e + (m.log2 : Nat) - 52) := fun s e => by
      rw [← nearest_shift s m (52 - m.log2) e, hF, show e - ((52 - m.log2 : Nat) : Int) = e + (m.log2 : Nat) - 52 by omega]
    refine ⟨m.log2, F, by omega, by omega, ?_, key⟩
    rw [hF] at m1 m2
    rw [fo, key]
    generalize m.log2 = L at *
    rw [nearest_wd0 _ _ _ (by omega) (by omega) (Or.inr (by omega))]
    unfold wd Ieee.Format.word
    have e : ((0 : Int) + (L : Int) - 52 + 1074).toNat = L + 1022 := by omega
    rw [if_neg (by decide), e, Nat.min_eq_left (by omega)]
    omega
section
variable {x L F : Nat}
theorem read_parts (E F : Nat) (h0 : 1 ≤ E) (h1 : E ≤ 2046) (h2 : F < 4503599627370496) : Ieee.double.read (E * 4503599627370496 + F) = .number false (4503599627370496 + F) ((E : Int) - 1075) := by
  have g : rg (E * 4503599627370496 + F) = E * 4503599627370496 + F := by unfold rg; omega
  rw [read_num _ (by rw [g]; omega), g]
  have a : ng (E * 4503599627370496 + F) = false := by unfold ng; rw [Nat.div_eq_of_lt (by omega)]; rfl
  have b : mm (E * 4503599627370496 + F) = 4503599627370496 + F := by unfold mm; rw [if_neg (by omega)]; omega
  have c : mp (E * 4503599627370496 + F) = E - 1 := by unfold mp; omega
  rw [a, b, c]
  congr 1
  omega
theorem mul_parts (c E F : Nat) (k : Int) (hc : Ieee.double.read c = .number false 4503599627370496 k) (h0 : 1 ≤ E) (h1 : E ≤ 2046) (h2 : F < 4503599627370496) :
    Go.floatBits .mul .f64 c (E * 4503599627370496 + F) = some (Ieee.double.nearest false (4503599627370496 + F) (k + 52 + E - 1075)) := by
  show Ieee.double.mul c (E * 4503599627370496 + F) = _
  unfold Ieee.Format.mul
  rw [hc, read_parts E F h0 h1 h2]
  show some (Ieee.double.nearest false (4503599627370496 * (4503599627370496 + F)) (k + ((E : Int) - 1075))) = _
  have := nearest_shift false (4503599627370496 + F) 52 (k + 52 + E - 1075)
  rw [Nat.mul_comm, show 4503599627370496 = 2 ^ 52 by rfl, show k + ((E : Int) - 1075) = k + 52 + E - 1075 - ((52 : Nat) : Int) by omega]
  rw [show 4503599627370496 = 2 ^ 52 by rfl] at this
  rw [this]
theorem read_one : Ieee.double.read 4607182418800017408 = .number false 4503599627370496 (-52) := by decide
theorem read_small : Ieee.double.read 4368491638549381120 = .number false 4503599627370496 (-105) := by decide
theorem bits_andNot_u64_nat (a b : Nat) (ha : a < 18446744073709551616) (hb : b < 18446744073709551616) :
    bits .andNot .u64 (a : Int) (b : Int) = ((a &&& (18446744073709551615 - b) : Nat) : Int) := by
  have hx : a &&& (18446744073709551615 - b) < 2 ^ 64 := Nat.and_lt_two_pow _ (by omega)
  have h1 : (BitVec.ofInt 64 (a : Int)).toNat = a := by
    rw [BitVec.ofInt_natCast, BitVec.toNat_ofNat]; exact Nat.mod_eq_of_lt (by omega)
  have h2 : (BitVec.ofInt 64 (b : Int)).toNat = b := by
    rw [BitVec.ofInt_natCast, BitVec.toNat_ofNat]; exact Nat.mod_eq_of_lt (by omega)
  show IntKind.u64.wrap ((BitVec.ofInt 64 (a : Int) &&& ~~~ BitVec.ofInt 64 (b : Int)).toNat : Int) = _
  rw [BitVec.toNat_and, BitVec.toNat_not, h1, h2, IntKind.wrap_u64, show 2 ^ 64 - 1 - b = 18446744073709551615 - b by omega]
  omega
theorem abs_pos (x : Nat) (h : x < 9223372036854775808) : (Go.bits .andNot .u64 (x : Int) 9223372036854775808 : Int).toNat = x := by
  rw [show (9223372036854775808 : Int) = ((9223372036854775808 : Nat) : Int) by rfl, bits_andNot_u64_nat x _ (by omega) (by decide), Int.toNat_natCast]
  have := Nat.and_two_pow_sub_one_eq_mod x 63
  rw [show 18446744073709551615 - 9223372036854775808 = 2 ^ 63 - 1 by rfl, this, Nat.mod_eq_of_lt (by omega)]
theorem frac_of (E F : Nat) (h1 : E ≤ 2047) (h2 : F < 4503599627370496) : Go.bits .andNot .u64 ((E * 4503599627370496 + F : Nat) : Int) 9218868437227405312 = (F : Int) := by
  rw [show (9218868437227405312 : Int) = ((9218868437227405312 : Nat) : Int) by rfl, bits_andNot_u64_nat _ _ (by omega) (by decide)]
  have e : 18446744073709551615 - 9218868437227405312 = 2 ^ 63 ||| (2 ^ 52 - 1) := by decide
  have z : (E * 4503599627370496 + F) &&& 2 ^ 63 = 0 := by
    refine Nat.eq_of_testBit_eq fun i => ?_
    rw [Nat.testBit_and, Nat.testBit_two_pow, Nat.zero_testBit]
    by_cases c : 63 = i
    · subst c
      rw [Nat.testBit_lt_two_pow (show E * 4503599627370496 + F < 2 ^ 63 by omega)]
      rfl
    · rw [decide_eq_false c, Bool.and_false]
  rw [e, Nat.and_or_distrib_left, Nat.and_two_pow_sub_one_eq_mod, z, Nat.zero_or]
  omega
theorem or_parts (E F : Nat) (h1 : E ≤ 2047) (h2 : F < 4503599627370496) : (Go.bits .or .u64 (F : Int) ((E : Int) * 4503599627370496) : Int).toNat = E * 4503599627370496 + F := by
  rw [show (E : Int) * 4503599627370496 = ((E * 4503599627370496 : Nat) : Int) by omega, bits_or_u64_nat _ _ (by omega) (by omega), Int.toNat_natCast, Nat.or_comm, Nat.mul_comm E]
  have := Nat.two_pow_add_eq_or_of_lt (i := 52) (b := F) (by omega) E
  rw [← this]
theorem mask11 (x : Int) (h0 : 0 ≤ x) (h1 : x < 9223372036854775808) : Go.bits .and .i64 x 2047 = x % 2048 :=
  bits_mask .i64 63 (by decide) (fun n h0 h1 => by rw [IntKind.wrap_i64]; omega) 11 (by decide) x h0 (by omega)
/-- Orders of positive finite numbers. -/
theorem order_pos (x y : Nat) (hx : x < 9218868437227405312) (hy : y < 9218868437227405312) : FloatKind.f64.format.order x y = some (if x < y then .lt else if x = y then .eq else .gt) := by
  have gx : rg x = x := by unfold rg; omega
  have gy : rg y = y := by unfold rg; omega
  have sx : ng x = false := by unfold ng; rw [Nat.div_eq_of_lt (by omega)]; rfl
  have sy : ng y = false := by unfold ng; rw [Nat.div_eq_of_lt (by omega)]; rfl
  rw [order_eq]
  unfold nan iv sv co
  rw [gx, gy, sx, sy, if_neg (by simp; omega)]
  simp only [Bool.false_eq_true, if_false]
  congr 1
  repeat' split
  all_goals first | rfl | omega
end
end Go.Flt
