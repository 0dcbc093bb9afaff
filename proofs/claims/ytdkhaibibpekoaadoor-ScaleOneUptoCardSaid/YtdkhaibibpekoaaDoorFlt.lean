/- The order of float64 numbers, told by whole numbers: the bits' rung with its sign; and a key in which the order of all float64 is the order of whole numbers. -/
import Derived.Laws.FloatArith
namespace Go.Flt
set_option linter.unusedVariables false

theorem sw : Ieee.double.signWeight = 9223372036854775808 := by decide
theorem bn : Ieee.double.binade = 4503599627370496 := by decide
theorem ir : Ieee.double.infRung = 9218868437227405312 := by decide
theorem lp : Ieee.double.leastPlace = -1074 := by decide
def ng (x : Nat) : Bool := x / 9223372036854775808 % 2 == 1
def rg (x : Nat) : Nat := x % 9223372036854775808
def mm (r : Nat) : Nat := if r < 4503599627370496 then r else 4503599627370496 + r % 4503599627370496
def mp (r : Nat) : Nat := r / 4503599627370496 - 1
def mv (r : Nat) : Nat := mm r * 2 ^ mp r
def nan (x : Nat) : Bool := decide (9218868437227405312 < rg x)
def sv (s : Bool) (r : Nat) : Int := if s = true then -(r : Int) else r
def iv (x : Nat) : Int := sv (ng x) (rg x)
def co (a b : Int) : Ordering := if a < b then .lt else if a = b then .eq else .gt

theorem read_num (x : Nat) (h : rg x < 9218868437227405312) : Ieee.double.read x = .number (ng x) (mm (rg x)) (-1074 + (mp (rg x) : Nat)) := by
  unfold Ieee.Format.read
  simp only [sw, bn, ir, lp]
  unfold rg at *
  unfold ng mm mp
  by_cases c : x % 9223372036854775808 < 4503599627370496
  · have e : x % 9223372036854775808 / 4503599627370496 - 1 = 0 := by omega
    rw [if_pos c, if_pos c, e]; rfl
  · rw [if_neg c, if_pos h, if_neg c]
theorem read_inf (x : Nat) (h : rg x = 9218868437227405312) : Ieee.double.read x = .infinity (ng x) := by
  unfold Ieee.Format.read
  simp only [sw, bn, ir, lp]
  unfold rg at *
  unfold ng
  rw [if_neg (by omega), if_neg (by omega), if_pos h]
theorem read_nan (x : Nat) (h : 9218868437227405312 < rg x) : Ieee.double.read x = .nan (ng x) (rg x - 9218868437227405312) := by
  unfold Ieee.Format.read
  simp only [sw, bn, ir, lp]
  unfold rg at *
  unfold ng
  rw [if_neg (by omega), if_neg (by omega), if_neg (by omega)]
theorem mv_lt (r : Nat) : mv r < 4503599627370496 * 2 ^ (r / 4503599627370496) := by
  unfold mv mm mp
  by_cases c : r < 4503599627370496
  · have e : r / 4503599627370496 = 0 := by omega
    rw [if_pos c, e]; simpa using c
  · have e : r / 4503599627370496 = (r / 4503599627370496 - 1) + 1 := by omega
    rw [if_neg c, e, Nat.add_sub_cancel, Nat.pow_succ]
    generalize r / 4503599627370496 - 1 = k
    have hp : 0 < 2 ^ k := Nat.two_pow_pos _
    have h1 : 4503599627370496 + r % 4503599627370496 < 9007199254740992 := by omega
    have h2 := Nat.mul_lt_mul_of_pos_right h1 hp
    generalize (4503599627370496 + r % 4503599627370496) * 2 ^ k = X at *
    omega
theorem mv_ge (r : Nat) (h : 4503599627370496 ≤ r) : 4503599627370496 * 2 ^ (r / 4503599627370496 - 1) ≤ mv r := by
  unfold mv mm mp
  rw [if_neg (by omega)]
  exact Nat.mul_le_mul_right _ (by omega)
theorem mv_mono {r s : Nat} (h : r < s) : mv r < mv s := by
  by_cases q : r / 4503599627370496 = s / 4503599627370496
  · unfold mv mp
    rw [q]
    refine Nat.mul_lt_mul_of_pos_right ?_ (Nat.two_pow_pos _)
    unfold mm
    split
    · split <;> omega
    · rw [if_neg (by omega)]; omega
  · have h1 : r / 4503599627370496 ≤ s / 4503599627370496 - 1 := by omega
    have h2 := mv_lt r
    have h3 := mv_ge s (by omega)
    have h4 : 2 ^ (r / 4503599627370496) ≤ 2 ^ (s / 4503599627370496 - 1) := Nat.pow_le_pow_right (by decide) h1
    have h5 := Nat.mul_le_mul_left 4503599627370496 h4
    exact Nat.lt_of_lt_of_le h2 (Nat.le_trans h5 h3)
theorem mv_zero : mv 0 = 0 := by decide
theorem mv_iff (r s : Nat) : (mv r < mv s ↔ r < s) ∧ (mv r = mv s ↔ r = s) := by
  rcases Nat.lt_trichotomy r s with h | h | h
  · have := mv_mono h; omega
  · subst h; simp
  · have := mv_mono h; omega
theorem mv_pos (r : Nat) : mv r = 0 ↔ r = 0 := by
  have := (mv_iff r 0).2; rw [mv_zero] at this; exact this
theorem co_sv (s t : Bool) (r q : Nat) : co (sv s (mv r)) (sv t (mv q)) = co (sv s r) (sv t q) := by
  obtain ⟨h1, h2⟩ := mv_iff r q
  have h3 := (mv_iff q r).1
  have h4 := mv_pos r
  have h5 := mv_pos q
  unfold co sv
  generalize mv r = R at *
  generalize mv q = Q at *
  cases s <;> cases t <;> simp only [if_true, if_false, Bool.false_eq_true] <;> (repeat' split) <;> first | rfl | omega
theorem co_mul (a b : Int) (c : Nat) : co (a * ((2 ^ c : Nat) : Int)) (b * ((2 ^ c : Nat) : Int)) = co a b := by
  have hp : (0 : Int) < ((2 ^ c : Nat) : Int) := by have := Nat.two_pow_pos c; omega
  unfold co
  rcases Int.lt_trichotomy a b with h | h | h
  · rw [if_pos h, if_pos (Int.mul_lt_mul_of_pos_right h hp)]
  · subst h; rw [if_neg (Int.lt_irrefl _), if_neg (Int.lt_irrefl _), if_pos rfl, if_pos rfl]
  · have h2 := Int.mul_lt_mul_of_pos_right h hp
    rw [if_neg (by omega), if_neg (by omega), if_neg (by omega), if_neg (by omega)]
theorem signed_eq (s : Bool) (m up : Nat) : Ieee.signed s m up = sv s (m * 2 ^ up) := by
  unfold Ieee.signed sv
  rw [Nat.shiftLeft_eq]
theorem sv_mul (s : Bool) (m k : Nat) : sv s m * (k : Int) = sv s (m * k) := by
  unfold sv
  split
  · rw [Int.natCast_mul, Int.neg_mul]
  · rw [Int.natCast_mul]
theorem compare_co (a b : Int) : compare a b = co a b := rfl
theorem order_num (x y : Nat) (hx : rg x < 9218868437227405312) (hy : rg y < 9218868437227405312) : Ieee.double.order x y = some (co (iv x) (iv y)) := by
  unfold Ieee.Format.order
  rw [read_num x hx, read_num y hy]
  unfold Ieee.Datum.order
  simp only [Option.some.injEq]
  rw [compare_co, signed_eq, signed_eq]
  generalize ha : mp (rg x) = a
  generalize hb : mp (rg y) = b
  have e1 : ((-1074 + (a : Int)) - min (-1074 + (a : Int)) (-1074 + (b : Int))).toNat = a - min a b := by omega
  have e2 : ((-1074 + (b : Int)) - min (-1074 + (a : Int)) (-1074 + (b : Int))).toNat = b - min a b := by omega
  rw [e1, e2, ← co_mul _ _ (min a b), sv_mul, sv_mul, Nat.mul_assoc, Nat.mul_assoc, ← Nat.pow_add, ← Nat.pow_add, Nat.sub_add_cancel (Nat.min_le_left a b), Nat.sub_add_cancel (Nat.min_le_right a b), ← ha, ← hb]
  exact co_sv _ _ _ _
theorem order_eq (x y : Nat) : FloatKind.f64.format.order x y = if nan x = true ∨ nan y = true then none else some (co (iv x) (iv y)) := by
  show Ieee.double.order x y = _
  unfold nan
  simp only [decide_eq_true_eq]
  by_cases nx : 9218868437227405312 < rg x
  · rw [if_pos (Or.inl nx)]
    unfold Ieee.Format.order
    rw [read_nan x nx]; rfl
  · by_cases ny : 9218868437227405312 < rg y
    · rw [if_pos (Or.inr ny)]
      unfold Ieee.Format.order
      rw [read_nan y ny]
      rcases Nat.lt_or_ge (rg x) 9218868437227405312 with h | h
      · rw [read_num x h]; rfl
      · rw [read_inf x (by omega)]; rfl
    · rw [if_neg (by omega)]
      rcases Nat.lt_or_ge (rg x) 9218868437227405312 with h | h
      · rcases Nat.lt_or_ge (rg y) 9218868437227405312 with h' | h'
        · exact order_num x y h h'
        · have ey : rg y = 9218868437227405312 := by omega
          unfold Ieee.Format.order
          rw [read_num x h, read_inf y ey]
          unfold Ieee.Datum.order iv sv co
          rw [ey]
          simp only [Option.some.injEq]
          cases ng x <;> cases ng y <;> simp only [if_true, if_false, Bool.false_eq_true] <;> (repeat' split) <;> first | rfl | omega
      · have ex : rg x = 9218868437227405312 := by omega
        rcases Nat.lt_or_ge (rg y) 9218868437227405312 with h' | h'
        · unfold Ieee.Format.order
          rw [read_inf x ex, read_num y h']
          unfold Ieee.Datum.order iv sv co
          rw [ex]
          simp only [Option.some.injEq]
          cases ng x <;> cases ng y <;> simp only [if_true, if_false, Bool.false_eq_true] <;> (repeat' split) <;> first | rfl | omega
        · have ey : rg y = 9218868437227405312 := by omega
          unfold Ieee.Format.order
          rw [read_inf x ex, read_inf y ey]
          unfold Ieee.Datum.order iv sv
          rw [ex, ey]
          cases ng x <;> cases ng y <;> decide
end Go.Flt
