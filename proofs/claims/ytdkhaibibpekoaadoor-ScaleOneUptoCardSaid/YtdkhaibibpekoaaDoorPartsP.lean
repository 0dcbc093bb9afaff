/- What parts answers: a label as an odd number times a power of two; the document's Parts the same. -/
import Derived.Test.YtdkhaibibpekoaaDoorQ1
import Derived.Test.YtdkhaibibpekoaaDoorQ2
import Derived.Test.YtdkhaibibpekoaaDoorQ6
import Derived.Test.YtdkhaibibpekoaaDoorQ7
import Derived.Test.YtdkhaibibpekoaaDoorNear0
namespace Go.Flt
set_option linter.unusedVariables false
set_option linter.unusedSimpArgs false
theorem odd_part : ∀ m : Nat, 0 < m → ∃ o t : Nat, m = o * 2 ^ t ∧ o % 2 = 1 := by
  intro m
  induction m using Nat.strongRecOn with
  | _ m ih =>
    intro h
    by_cases c : m % 2 = 1
    · exact ⟨m, 0, by rw [Nat.pow_zero, Nat.mul_one], c⟩
    · obtain ⟨o, t, e, ho⟩ := ih (m / 2) (by omega) (by omega)
      exact ⟨o, t + 1, by rw [Nat.pow_succ, ← Nat.mul_assoc, ← e]; omega, ho⟩
theorem and_compl (a n : Nat) (h : a < 2 ^ n) : a &&& (2 ^ n - (a + 1)) = 0 := by
  refine Nat.eq_of_testBit_eq fun i => ?_
  rw [Nat.testBit_and, Nat.testBit_two_pow_sub_succ h, Nat.zero_testBit]
  cases a.testBit i <;> simp
theorem and_neg (o t : Nat) (ho : o % 2 = 1) (h : o * 2 ^ t < 18446744073709551616) : (o * 2 ^ t) &&& (18446744073709551616 - o * 2 ^ t) = 2 ^ t := by
  have o1 : 1 ≤ o := by omega
  have tl : t < 64 := by
    by_cases c : t < 64
    · exact c
    · have h1 : 2 ^ 64 ≤ 2 ^ t := Nat.pow_le_pow_right (by decide) (by omega)
      have h2 : 2 ^ t ≤ o * 2 ^ t := Nat.le_mul_of_pos_left _ o1
      omega
  obtain ⟨n, hn⟩ : ∃ n, 64 = t + (n + 1) := ⟨63 - t, by omega⟩
  have e64 : 18446744073709551616 = 2 ^ (n + 1) * 2 ^ t := by rw [← Nat.pow_add, Nat.add_comm, ← hn]
  have ol : o < 2 ^ (n + 1) := by
    rw [e64] at h
    exact Nat.lt_of_mul_lt_mul_right h
  obtain ⟨a, rfl⟩ : ∃ a, o = 2 * a + 1 := ⟨o / 2, by omega⟩
  have al : a < 2 ^ n := by rw [Nat.pow_succ] at ol; omega
  have e2 : 18446744073709551616 - (2 * a + 1) * 2 ^ t = (2 * (2 ^ n - (a + 1)) + 1) * 2 ^ t := by
    rw [e64, ← Nat.sub_mul]
    congr 1
    rw [Nat.pow_succ]; omega
  rw [e2, ← Nat.shiftLeft_eq, ← Nat.shiftLeft_eq, ← Nat.shiftLeft_and_distrib]
  have e3 : (2 * a + 1) &&& (2 * (2 ^ n - (a + 1)) + 1) = 1 := by
    refine Nat.eq_of_testBit_eq fun i => ?_
    rw [Nat.testBit_and]
    cases i with
    | zero => simp
    | succ i =>
      have z := congrArg (fun x => x.testBit i) (and_compl a n al)
      simp only [Nat.testBit_and, Nat.zero_testBit] at z
      rw [Nat.testBit_succ, Nat.testBit_succ, Nat.testBit_succ, show (2 * a + 1) / 2 = a by omega, show (2 * (2 ^ n - (a + 1)) + 1) / 2 = 2 ^ n - (a + 1) by omega, z]
      simp
  rw [e3, Nat.shiftLeft_eq, Nat.one_mul]
theorem word_lt2 (s : Bool) (r : Nat) (h : r < 9223372036854775808) : Ieee.double.word s r < 18446744073709551616 := by
  unfold Ieee.Format.word
  rw [sw]
  split <;> omega
theorem word_of (b : Nat) (h : b < 18446744073709551616) : Ieee.double.word (ng b) (rg b) = b := by
  unfold Ieee.Format.word ng rg
  rw [sw]
  by_cases c : b / 9223372036854775808 % 2 = 1
  · rw [c, if_pos (by rfl)]; omega
  · rw [show b / 9223372036854775808 % 2 = 0 by omega, if_neg (by decide)]; omega
theorem abs_any (b : Nat) (h : b < 18446744073709551616) : (Go.bits .andNot .u64 (b : Int) 9223372036854775808 : Int).toNat = rg b := by
  rw [show (9223372036854775808 : Int) = ((9223372036854775808 : Nat) : Int) by rfl, bits_andNot_u64_nat b _ h (by decide), Int.toNat_natCast]
  have := Nat.and_two_pow_sub_one_eq_mod b 63
  rw [show 18446744073709551615 - 9223372036854775808 = 2 ^ 63 - 1 by rfl, this]
  rfl
theorem frac_any (s : Bool) (E F : Nat) (h1 : E ≤ 2047) (h2 : F < 4503599627370496) : Go.bits .or .u64 (Go.bits .andNot .u64 ((Ieee.double.word s (E * 4503599627370496 + F) : Nat) : Int) 9218868437227405312) 4602678819172646912 = ((Ieee.double.word s (4602678819172646912 + F) : Nat) : Int) := by
  have wl := word_lt2 s (E * 4503599627370496 + F) (by omega)
  rw [show (9218868437227405312 : Int) = ((9218868437227405312 : Nat) : Int) by rfl, bits_andNot_u64_nat _ _ wl (by decide)]
  have e : 18446744073709551615 - 9218868437227405312 = 2 ^ 63 ||| (2 ^ 52 - 1) := by decide
  have z : (Ieee.double.word s (E * 4503599627370496 + F)) &&& 2 ^ 63 = if s = true then 2 ^ 63 else 0 := by
    refine Nat.eq_of_testBit_eq fun i => ?_
    rw [Nat.testBit_and, Nat.testBit_two_pow]
    by_cases c : 63 = i
    · subst c
      rw [decide_eq_true rfl, Bool.and_true]
      unfold Ieee.Format.word
      rw [sw]
      cases s
      · rw [if_neg (by decide), if_neg (by decide), Nat.testBit_lt_two_pow (show E * 4503599627370496 + F < 2 ^ 63 by omega), Nat.zero_testBit]
      · rw [if_pos rfl, if_pos rfl, show 9223372036854775808 + (E * 4503599627370496 + F) = 2 ^ 63 * 1 + (E * 4503599627370496 + F) by omega, Nat.testBit_two_pow_mul_add 1 (show E * 4503599627370496 + F < 2 ^ 63 by omega), if_neg (by decide), Nat.testBit_two_pow]
        rfl
    · rw [decide_eq_false c, Bool.and_false]
      cases s
      · rw [if_neg (by decide), Nat.zero_testBit]
      · rw [if_pos rfl, Nat.testBit_two_pow, decide_eq_false c]
  have m : Ieee.double.word s (E * 4503599627370496 + F) % 2 ^ 52 = F := by
    unfold Ieee.Format.word
    rw [sw]
    split <;> omega
  rw [e, Nat.and_or_distrib_left, Nat.and_two_pow_sub_one_eq_mod, z, m]
  rw [show (4602678819172646912 : Int) = ((4602678819172646912 : Nat) : Int) by rfl]
  have key : ∀ q : Nat, (2 ^ 52 * q ||| F) = 2 ^ 52 * q + F := fun q => (Nat.two_pow_add_eq_or_of_lt (by omega) q).symm
  cases s
  · rw [if_neg (by decide), Nat.zero_or, bits_or_u64_nat _ _ (by omega) (by decide), Nat.or_comm, show 4602678819172646912 = 2 ^ 52 * 1022 by rfl, key]
    rfl
  · have o1 : 2 ^ 63 ||| F = 9223372036854775808 + F := by have := key 2048; rw [show 2 ^ 52 * 2048 = 2 ^ 63 by rfl] at this; rw [this]
    rw [if_pos rfl, bits_or_u64_nat _ _ (by rw [o1]; omega) (by decide), Nat.or_comm, ← Nat.or_assoc, show 4602678819172646912 ||| 2 ^ 63 = 2 ^ 52 * 3070 by decide, key]
    unfold Ieee.Format.word
    rw [if_pos rfl, sw]
    omega
theorem mul_any (s : Bool) (M c : Nat) (p k : Int) (hc : Ieee.double.read c = .number false 4503599627370496 k) (x : Nat) (hx : Ieee.double.read x = .number s M p) : Go.floatBits .mul .f64 x c = some (Ieee.double.nearest s M (p + k + 52)) := by
  show Ieee.double.mul x c = _
  unfold Ieee.Format.mul
  rw [hc, hx]
  show some (Ieee.double.nearest (s ^^ false) (M * 4503599627370496) (p + k)) = _
  have := nearest_shift s M 52 (p + k + 52)
  rw [show p + k + 52 - ((52 : Nat) : Int) = p + k by omega] at this
  rw [Bool.xor_false, show (4503599627370496 : Nat) = 2 ^ 52 by rfl, this]
theorem read_2_52 : Ieee.double.read 4841369599423283200 = .number false 4503599627370496 0 := by decide
theorem read_2_53 : Ieee.double.read 4845873199050653696 = .number false 4503599627370496 1 := by decide
theorem toInt_wd (s : Bool) (M : Nat) (h0 : 4503599627370496 ≤ M) (h1 : M < 9007199254740992) : Go.floatToIntVal .f64 (wd s M 0) .i64 = some (sv s M) := by
  unfold Go.floatToIntVal
  show (match (Ieee.double.read (wd s M 0)).toInt .zero with | some n => _ | none => _) = _
  rw [read_wd s M 0 h0 h1 (by decide) (by decide)]
  have e : (Ieee.Datum.number s M 0).toInt .zero = some (sv s M) := by
    unfold Ieee.Datum.toInt Ieee.Datum.integral Ieee.Toward.cut
    simp only [Int.toNat_zero, Int.neg_zero, Nat.shiftLeft_zero, Nat.zero_min, Nat.div_one, Nat.mod_one, Bool.toNat_false, Nat.add_zero]
    rw [signed_eq, Nat.pow_zero, Nat.mul_one]
  rw [e]
  simp only
  have b1 : IntKind.i64.min = -9223372036854775808 := by decide
  have b2 : IntKind.i64.max = 9223372036854775807 := by decide
  rw [if_pos]
  rw [b1, b2]
  unfold sv
  split <;> omega
end Go.Flt
namespace Go.Proofs.YtdkhaibibpekoaaDoor.Pure
open Go.RowKit Go.Flt Go.Proofs.YtdkhaibibpekoaaDoor.Q Go.Proofs.YtdkhaibibpekoaaDoorW.PrintWords Go.Proofs.YtdkhaibibpekoaaDoorW.PrintLast Go.Proofs.YtdkhaibibpekoaaDoorW.PrintMore
set_option linter.unusedVariables false
theorem tab_f : ∀ t : Fin 64, dbTab.getD ((2 ^ t.val * 285870213051353865 % 18446744073709551616) / 288230376151711744) 0 = (t.val : Int) := by decide
/-- TrailingZeros64 at an odd number times a power of two. -/
theorem tz_f (o t : Nat) (ho : o % 2 = 1) (h : o * 2 ^ t < 18446744073709551616) : bits_TrailingZeros64.f ((o * 2 ^ t : Nat) : Int) = some (t : Int) := by
  have h2 : 2 ^ t ≤ o * 2 ^ t := Nat.le_mul_of_pos_left _ (by omega)
  have hp := Nat.two_pow_pos t
  have tl : t < 64 := by
    by_cases c : t < 64
    · exact c
    · have h1 : 2 ^ 64 ≤ 2 ^ t := Nat.pow_le_pow_right (by decide) (by omega)
      omega
  have an := and_neg o t ho h
  have tb := tab_f ⟨t, tl⟩
  have e : tzAt ((o * 2 ^ t : Nat) : Int) = ((2 ^ t * 285870213051353865 % 18446744073709551616 / 288230376151711744 : Nat) : Int) := by
    unfold tzAt
    have ng : IntKind.u64.wrap (-((o * 2 ^ t : Nat) : Int)) = ((18446744073709551616 - o * 2 ^ t : Nat) : Int) := by rw [IntKind.wrap_u64]; omega
    rw [ng, bits_and_u64_nat _ _ h (by omega), an, IntKind.wrap_u64]
    omega
  unfold bits_TrailingZeros64.f
  rw [if_neg (by omega), e, Int.toNat_natCast]
  simp only at tb
  rw [tb, if_pos ⟨by omega, by omega, by omega, by omega⟩]
/-- The end of parts: behind Frexp. -/
theorem parts_end (s : Bool) (o t F : Nat) (e : Int) (hF : F < 4503599627370496) (ho : o % 2 = 1) (hm : 4503599627370496 + F = o * 2 ^ t) (h0 : -3000 ≤ e) (h1 : e ≤ 3000) :
    (if (Go.floatBits .mul .f64 (Ieee.double.word s (4602678819172646912 + F)) 4845873199050653696).isSome = true then (if (Go.floatToIntVal .f64 ((Go.floatBits .mul .f64 (Ieee.double.word s (4602678819172646912 + F)) 4845873199050653696).getD 0) .i64).isSome = true then ((bits_TrailingZeros64.f (IntKind.u64.wrap ((Go.floatToIntVal .f64 ((Go.floatBits .mul .f64 (Ieee.double.word s (4602678819172646912 + F)) 4845873199050653696).getD 0) .i64).getD 0))).bind fun t111 => (if 0 ≤ t111 then (some (shr .i64 ((Go.floatToIntVal .f64 ((Go.floatBits .mul .f64 (Ieee.double.word s (4602678819172646912 + F)) 4845873199050653696).getD 0) .i64).getD 0) t111, wrap64 ((wrap64 (e - 53)) + t111))) else (none))) else (none)) else (none)) = some (sv s o, e - 53 + t) := by
  have hp := Nat.two_pow_pos t
  have tl : t < 64 := by
    by_cases c : t < 64
    · exact c
    · have h1 : 2 ^ 64 ≤ 2 ^ t := Nat.pow_le_pow_right (by decide) (by omega)
      have h2 : 2 ^ t ≤ o * 2 ^ t := Nat.le_mul_of_pos_left _ (by omega)
      omega
  have rd : Ieee.double.read (Ieee.double.word s (4602678819172646912 + F)) = .number s (4503599627370496 + F) (-53) := by
    have := read_wd s (4503599627370496 + F) (-53) (by omega) (by omega) (by decide) (by decide)
    unfold wd at this
    rw [Nat.min_eq_left (by omega)] at this
    rw [show ((-53 + 1074 : Int).toNat) = 1021 by rfl, show 1021 * 4503599627370496 + (4503599627370496 + F) = 4602678819172646912 + F by omega] at this
    exact this
  have mu := mul_any s (4503599627370496 + F) _ (-53) 1 read_2_53 _ rd
  rw [show (-53 : Int) + 1 + 52 = 0 by rfl, nearest_wd0 s _ 0 (by omega) (by decide) (Or.inr (by omega))] at mu
  have ti := toInt_wd s (4503599627370496 + F) (by omega) (by omega)
  rw [mu]
  simp only [Option.isSome_some, if_true, Option.getD_some, ti]
  have tz : bits_TrailingZeros64.f (IntKind.u64.wrap (sv s (4503599627370496 + F))) = some (t : Int) := by
    cases s
    · have : IntKind.u64.wrap (sv false (4503599627370496 + F)) = ((o * 2 ^ t : Nat) : Int) := by
        show IntKind.u64.wrap ((4503599627370496 + F : Nat) : Int) = _
        rw [hm, un _ (by omega)]
      rw [this]
      exact tz_f o t ho (by omega)
    · obtain ⟨n, hn⟩ : ∃ n, 64 = t + (n + 1) := ⟨63 - t, by omega⟩
      have e64 : 18446744073709551616 = 2 ^ (n + 1) * 2 ^ t := by rw [← Nat.pow_add, Nat.add_comm, ← hn]
      have ol : o < 2 ^ (n + 1) := by
        refine Nat.lt_of_mul_lt_mul_right (a := 2 ^ t) ?_
        rw [← e64]; omega
      have e2 : (2 ^ (n + 1) - o) * 2 ^ t = 18446744073709551616 - o * 2 ^ t := by rw [Nat.sub_mul, ← e64]
      have : IntKind.u64.wrap (sv true (4503599627370496 + F)) = (((2 ^ (n + 1) - o) * 2 ^ t : Nat) : Int) := by
        show IntKind.u64.wrap (-((4503599627370496 + F : Nat) : Int)) = _
        rw [e2, IntKind.wrap_u64]; omega
      rw [this]
      refine tz_f _ t ?_ ?_
      · rw [Nat.pow_succ]
        rw [Nat.pow_succ] at ol
        omega
      · rw [e2]; omega
  rw [tz, Option.bind_some, if_pos (by omega)]
  have sh : shr .i64 (sv s (4503599627370496 + F)) (t : Int) = sv s o := by
    unfold shr
    rw [Int.toNat_natCast, Nat.min_eq_left (show t ≤ IntKind.i64.bits from by show t ≤ 64; omega), hm]
    have ip : (2 : Int) ^ t = ((2 ^ t : Nat) : Int) := by rw [Int.natCast_pow]; rfl
    rw [ip]
    unfold sv
    cases s
    · rw [if_neg (by decide), if_neg (by decide), ← Int.natCast_ediv, Nat.mul_div_cancel _ hp]
    · rw [if_pos rfl, if_pos rfl, Int.natCast_mul, ← Int.neg_mul, Int.mul_ediv_cancel _ (by omega)]
  rw [sh, w64 (a := e - 53) (by omega) (by omega), w64 (by omega) (by omega)]
end Go.Proofs.YtdkhaibibpekoaaDoor.Pure
