/- Words of float64 put together and taken apart; products by a power of two; bits of 64. -/
import Derived.Test.YtdkhaibibpekoaaDoorFltR
import Derived.Laws.Bits64b
import Derived.Laws.BitsLemmas
import Derived.RowKit
namespace Go.Flt
set_option linter.unusedVariables false
set_option linter.unusedSimpArgs false

/-- M times 2 to p, M of 53 bits or p the least. -/
def wd (s : Bool) (M : Nat) (p : Int) : Nat := Ieee.double.word s (min ((p + 1074).toNat * 4503599627370496 + M) 9218868437227405312)
theorem nearest_wd0 (s : Bool) (M : Nat) (p : Int) (h : M < 9007199254740992) (h1 : -1074 ≤ p) (h2 : p = -1074 ∨ 4503599627370496 ≤ M) : Ieee.double.nearest s M p = wd s M p := by
  unfold wd
  rcases Nat.eq_zero_or_pos M with rfl | h0
  · rw [nearest_zero]
    have : p = -1074 := by omega
    subst this
    rfl
  · rw [nearest_rn s M p h0]
    have hl : M.log2 ≤ 52 := by
      have := Nat.log2_self_le (n := M) (by omega)
      by_cases c : M.log2 ≤ 52
      · exact c
      · have := Nat.pow_le_pow_right (n := 2) (by decide) (show 53 ≤ M.log2 by omega)
        omega
    have e : max (p + (M.log2 : Int) - 52) (-1074) = p := by
      rcases h2 with h2 | h2
      · subst h2; omega
      · have : M.log2 = 52 := (Nat.log2_eq_iff (by omega)).2 ⟨by omega, by omega⟩
        rw [this]; omega
    rw [e, rn_self]
theorem nearest_wd (s : Bool) (M : Nat) (p : Int) (h : M ≤ 9007199254740992) (h1 : -1074 ≤ p) (h2 : p = -1074 ∨ 4503599627370496 ≤ M) : Ieee.double.nearest s M p = wd s M p := by
  by_cases c : M = 9007199254740992
  · subst c
    have := nearest_shift s 4503599627370496 1 (p + 1)
    rw [show p + 1 - ((1 : Nat) : Int) = p by omega, show 4503599627370496 * 2 ^ 1 = 9007199254740992 by rfl] at this
    rw [this, nearest_wd0 s _ _ (by decide) (by omega) (Or.inr (by decide))]
    unfold wd
    have e : (p + 1 + 1074).toNat * 4503599627370496 + 4503599627370496 = (p + 1074).toNat * 4503599627370496 + 9007199254740992 := by omega
    rw [e]
  · exact nearest_wd0 s M p (by omega) h1 h2
/-- A whole number of 53 bits as a float64: its parts. -/
theorem whole_parts (m : Nat) (h0 : 0 < m) (h1 : m ≤ 9007199254740992) : ∃ L F : Nat, L ≤ 53 ∧ F < 4503599627370496 ∧ floatOfInt .f64 (m : Int) = (L + 1023) * 4503599627370496 + F ∧ ∀ (s : Bool) (e : Int), Ieee.double.nearest s m e = Ieee.double.nearest s (4503599627370496 + F) (e + L - 52) := by
  have fo : floatOfInt .f64 (m : Int) = Ieee.double.nearest false m 0 := by
    show Ieee.double.nearest (decide ((m : Int) < 0)) (m : Int).natAbs 0 = _
    rw [decide_eq_false (by omega), Int.natAbs_natCast]
  by_cases c : m = 9007199254740992
  · subst c
    have key : ∀ (s : Bool) (e : Int), Ieee.double.nearest s 9007199254740992 e = Ieee.double.nearest s (4503599627370496 + 0) (e + (53 : Nat) - 52) := fun s e => by
      have := nearest_shift s 4503599627370496 1 (e + 1)
      rw [show e + 1 - ((1 : Nat) : Int) = e by omega, show 4503599627370496 * 2 ^ 1 = 9007199254740992 by rfl] at this
      rw [this, show e + ((53 : Nat) : Int) - 52 = e + 1 by omega]
    refine ⟨53, 0, by omega, by omega, ?_, key⟩
    rw [fo, key, nearest_wd0 _ _ _ (by decide) (by decide) (Or.inr (by decide))]
    rfl
  · have l1 := Nat.log2_self_le (n := m) (by omega)
    have l2 := Nat.lt_log2_self (n := m)
    have hl : m.log2 ≤ 52 := by
      by_cases c : m.log2 ≤ 52
      · exact c
      · have := Nat.pow_le_pow_right (n := 2) (by decide) (show 53 ≤ m.log2 by omega)
        omega
    have hp := Nat.two_pow_pos (52 - m.log2)
    have m1 := Nat.mul_le_mul_right (2 ^ (52 - m.log2)) l1
    have m2 := Nat.mul_lt_mul_of_pos_right l2 hp
    rw [← Nat.pow_add, show m.log2 + (52 - m.log2) = 52 by omega] at m1
    rw [← Nat.pow_add, show m.log2 + 1 + (52 - m.log2) = 53 by omega] at m2
    obtain ⟨F, hF⟩ : ∃ F, m * 2 ^ (52 - m.log2) = 4503599627370496 + F := ⟨m * 2 ^ (52 - m.log2) - 4503599627370496, by omega⟩
    have key : ∀ (s : Bool) (e : Int), Ieee.double.nearest s m e = Ieee.double.nearest s (4503599627370496 + F) (e + (m.log2 : Nat) - 52) := fun s e => by
      rw [← nearest_shift s m (52 - m.log2) e, hF, show e - ((52 - m.log2 : Nat) : Int) = e + (m.log2 : Nat) - 52 by omega]
    refine ⟨m.log2, F, by omega, by omega, ?_, key⟩
    rw [hF] at m1 m2
    rw [fo, key]
    generalize m.log2 = L at *
    rw [nearest_wd0 _ _ _ (by omega) (by omega) (Or.inr (by omega))]
    unfold wd Ieee.Format.word
    have e : ((0 : Int) + (L : Int) - 52 + 1074).toNat = L + 1022 := by omega
    rw [if_neg (by decide), e, Nat.min_eq_left (by omega)]
    omega
section
variable {x L F : Nat}
theorem read_parts (E F : Nat) (h0 : 1 ≤ E) (h1 : E ≤ 2046) (h2 : F < 4503599627370496) : Ieee.double.read (E * 4503599627370496 + F) = .number false (4503599627370496 + F) ((E : Int) - 1075) := by
  have g : rg (E * 4503599627370496 + F) = E * 4503599627370496 + F := by unfold rg; omega
  rw [read_num _ (by rw [g]; omega), g]
  have a : ng (E * 4503599627370496 + F) = false := by unfold ng; rw [Nat.div_eq_of_lt (by omega)]; rfl
  have b : mm (E * 4503599627370496 + F) = 4503599627370496 + F := by unfold mm; rw [if_neg (by omega)]; omega
  have c : mp (E * 4503599627370496 + F) = E - 1 := by unfold mp; omega
  rw [a, b, c]
  congr 1
  omega
theorem mul_parts (c E F : Nat) (k : Int) (hc : Ieee.double.read c = .number false 4503599627370496 k) (h0 : 1 ≤ E) (h1 : E ≤ 2046) (h2 : F < 4503599627370496) :
    Go.floatBits .mul .f64 c (E * 4503599627370496 + F) = some (Ieee.double.nearest false (4503599627370496 + F) (k + 52 + E - 1075)) := by
  show Ieee.double.mul c (E * 4503599627370496 + F) = _
  unfold Ieee.Format.mul
  rw [hc, read_parts E F h0 h1 h2]
  show some (Ieee.double.nearest false (4503599627370496 * (4503599627370496 + F)) (k + ((E : Int) - 1075))) = _
  have := nearest_shift false (4503599627370496 + F) 52 (k + 52 + E - 1075)
  rw [Nat.mul_comm, show 4503599627370496 = 2 ^ 52 by rfl, show k + ((E : Int) - 1075) = k + 52 + E - 1075 - ((52 : Nat) : Int) by omega]
  rw [show 4503599627370496 = 2 ^ 52 by rfl] at this
  rw [this]
theorem read_one : Ieee.double.read 4607182418800017408 = .number false 4503599627370496 (-52) := by decide
theorem read_small : Ieee.double.read 4368491638549381120 = .number false 4503599627370496 (-105) := by decide
theorem bits_andNot_u64_nat (a b : Nat) (ha : a < 18446744073709551616) (hb : b < 18446744073709551616) :
    bits .andNot .u64 (a : Int) (b : Int) = ((a &&& (18446744073709551615 - b) : Nat) : Int) := by
  have hx : a &&& (18446744073709551615 - b) < 2 ^ 64 := Nat.and_lt_two_pow _ (by omega)
  have h1 : (BitVec.ofInt 64 (a : Int)).toNat = a := by
    rw [BitVec.ofInt_natCast, BitVec.toNat_ofNat]; exact Nat.mod_eq_of_lt (by omega)
  have h2 : (BitVec.ofInt 64 (b : Int)).toNat = b := by
    rw [BitVec.ofInt_natCast, BitVec.toNat_ofNat]; exact Nat.mod_eq_of_lt (by omega)
  show IntKind.u64.wrap ((BitVec.ofInt 64 (a : Int) &&& ~~~ BitVec.ofInt 64 (b : Int)).toNat : Int) = _
  rw [BitVec.toNat_and, BitVec.toNat_not, h1, h2, IntKind.wrap_u64, show 2 ^ 64 - 1 - b = 18446744073709551615 - b by omega]
  omega
theorem abs_pos (x : Nat) (h : x < 9223372036854775808) : (Go.bits .andNot .u64 (x : Int) 9223372036854775808 : Int).toNat = x := by
  rw [show (9223372036854775808 : Int) = ((9223372036854775808 : Nat) : Int) by rfl, bits_andNot_u64_nat x _ (by omega) (by decide), Int.toNat_natCast]
  have := Nat.and_two_pow_sub_one_eq_mod x 63
  rw [show 18446744073709551615 - 9223372036854775808 = 2 ^ 63 - 1 by rfl, this, Nat.mod_eq_of_lt (by omega)]
theorem frac_of (E F : Nat) (h1 : E ≤ 2047) (h2 : F < 4503599627370496) : Go.bits .andNot .u64 ((E * 4503599627370496 + F : Nat) : Int) 9218868437227405312 = (F : Int) := by
  rw [show (9218868437227405312 : Int) = ((9218868437227405312 : Nat) : Int) by rfl, bits_andNot_u64_nat _ _ (by omega) (by decide)]
  have e : 18446744073709551615 - 9218868437227405312 = 2 ^ 63 ||| (2 ^ 52 - 1) := by decide
  have z : (E * 4503599627370496 + F) &&& 2 ^ 63 = 0 := by
    refine Nat.eq_of_testBit_eq fun i => ?_
    rw [Nat.testBit_and, Nat.testBit_two_pow, Nat.zero_testBit]
    by_cases c : 63 = i
    · subst c
      rw [Nat.testBit_lt_two_pow (show E * 4503599627370496 + F < 2 ^ 63 by omega)]
      rfl
    · rw [decide_eq_false c, Bool.and_false]
  rw [e, Nat.and_or_distrib_left, Nat.and_two_pow_sub_one_eq_mod, z, Nat.zero_or]
  omega
theorem or_parts (E F : Nat) (h1 : E ≤ 2047) (h2 : F < 4503599627370496) : (Go.bits .or .u64 (F : Int) ((E : Int) * 4503599627370496) : Int).toNat = E * 4503599627370496 + F := by
  rw [show (E : Int) * 4503599627370496 = ((E * 4503599627370496 : Nat) : Int) by omega, bits_or_u64_nat _ _ (by omega) (by omega), Int.toNat_natCast, Nat.or_comm, Nat.mul_comm E]
  have := Nat.two_pow_add_eq_or_of_lt (i := 52) (b := F) (by omega) E
  rw [← this]
theorem mask11 (x : Int) (h0 : 0 ≤ x) (h1 : x < 9223372036854775808) : Go.bits .and .i64 x 2047 = x % 2048 :=
  bits_mask .i64 63 (by decide) (fun n h0 h1 => by rw [IntKind.wrap_i64]; omega) 11 (by decide) x h0 (by omega)
/-- Orders of positive finite numbers. -/
theorem order_pos (x y : Nat) (hx : x < 9218868437227405312) (hy : y < 9218868437227405312) : FloatKind.f64.format.order x y = some (if x < y then .lt else if x = y then .eq else .gt) := by
  have gx : rg x = x := by unfold rg; omega
  have gy : rg y = y := by unfold rg; omega
  have sx : ng x = false := by unfold ng; rw [Nat.div_eq_of_lt (by omega)]; rfl
  have sy : ng y = false := by unfold ng; rw [Nat.div_eq_of_lt (by omega)]; rfl
  rw [order_eq]
  unfold nan iv sv co
  rw [gx, gy, sx, sy, if_neg (by simp; omega)]
  simp only [Bool.false_eq_true, if_false]
  congr 1
  repeat' split
  all_goals first | rfl | omega
end
end Go.Flt
