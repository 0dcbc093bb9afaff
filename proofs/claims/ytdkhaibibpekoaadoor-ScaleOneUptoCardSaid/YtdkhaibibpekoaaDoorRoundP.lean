/- What rounded answers: the nearest float64. -/
import Derived.Test.YtdkhaibibpekoaaDoorQ12
import Derived.Test.YtdkhaibibpekoaaDoorQ4
import Derived.Test.YtdkhaibibpekoaaDoorQ5
import Derived.Test.YtdkhaibibpekoaaDoorQ6
import Derived.Test.YtdkhaibibpekoaaDoorLdexpP
import Derived.Lib.ItoaNum
namespace Go.Flt
set_option linter.unusedVariables false
/-- mag times 2 to e, and a word on what is left over below, as the nearest float64. -/
def nr (s : Bool) (N : Nat) (e : Int) (more : Bool) : Nat :=
  if 0 < max ((Lib.bitLen N : Int) - 53) (-1074 - e) then wd s (rm N (max ((Lib.bitLen N : Int) - 53) (-1074 - e)).toNat more) (e + max ((Lib.bitLen N : Int) - 53) (-1074 - e)) else Ieee.double.nearest s N e
theorem bitLen_bounds (N : Nat) (h0 : 0 < N) (h1 : N < 18446744073709551616) : 1 ≤ Lib.bitLen N ∧ Lib.bitLen N ≤ 64 ∧ 2 ^ (Lib.bitLen N - 1) ≤ N ∧ N < 2 ^ Lib.bitLen N := by
  obtain ⟨a, b, c⟩ := Lib.bitLenAux_bounds 64 N h1 (by omega)
  exact ⟨a, Lib.bitLen_le N 64 (by omega) h1, b, c⟩
theorem neg_word (r : Nat) (h : r ≤ 9218868437227405312) : Go.Op.negFloat .f64 (Ieee.double.word false r) = Ieee.double.word true r := by
  unfold Go.Op.negFloat Ieee.Format.word
  rw [if_neg (by decide), if_pos rfl, sw]
  show r ^^^ 2 ^ 63 = _
  refine Nat.eq_of_testBit_eq fun i => ?_
  have e : 9223372036854775808 + r = 2 ^ 63 * 1 + r := by omega
  rw [Nat.testBit_xor, Nat.testBit_two_pow, e, Nat.testBit_two_pow_mul_add 1 (show r < 2 ^ 63 by omega)]
  by_cases c : i < 63
  · rw [if_pos c, decide_eq_false (by omega), Bool.xor_false]
  · rw [if_neg c, Nat.testBit_lt_two_pow (Nat.lt_of_lt_of_le (show r < 2 ^ 63 by omega) (Nat.pow_le_pow_right (by decide) (by omega)))]
    by_cases d : 63 = i
    · subst d; rfl
    · rw [decide_eq_false d, Nat.testBit_lt_two_pow (show 1 < 2 ^ (i - 63) from Nat.one_lt_two_pow (by omega))]; rfl
theorem neg_wd (M : Nat) (p : Int) : Go.Op.negFloat .f64 (wd false M p) = wd true M p := neg_word _ (Nat.min_le_right _ _)
theorem neg_nearest (m : Nat) (e : Int) : Go.Op.negFloat .f64 (Ieee.double.nearest false m e) = Ieee.double.nearest true m e := by
  rcases Nat.eq_zero_or_pos m with rfl | h
  · rw [nearest_zero, nearest_zero]; exact neg_word 0 (by decide)
  · rw [nearest_rn _ m e h, nearest_rn _ m e h]; exact neg_word _ (Nat.min_le_right _ _)
/-- The bits that are shifted out, at the top of a word. -/
theorem rest_top (N c : Nat) (hc : c ≤ 64) : N * 2 ^ (64 - c) % 18446744073709551616 = N % 2 ^ c * 2 ^ (64 - c) := by
  have : (18446744073709551616 : Nat) = 2 ^ c * 2 ^ (64 - c) := by rw [← Nat.pow_add, show c + (64 - c) = 64 by omega]
  rw [this, Nat.mul_mod_mul_right]
theorem rest_half (v c : Nat) (hc : c ≤ 64) : (v * 2 ^ (64 - c) > 9223372036854775808 ↔ 2 ^ c < 2 * v) ∧ (v * 2 ^ (64 - c) = 9223372036854775808 ↔ 2 ^ c = 2 * v) := by
  have hp := Nat.two_pow_pos (64 - c)
  have e : 2 ^ c * 2 ^ (64 - c) = 2 * 9223372036854775808 := by rw [← Nat.pow_add, show c + (64 - c) = 64 by omega]
  constructor
  · constructor
    · intro h
      refine Nat.lt_of_mul_lt_mul_right (a := 2 ^ (64 - c)) ?_
      rw [e, Nat.mul_assoc]; omega
    · intro h
      have := Nat.mul_lt_mul_of_pos_right h hp
      rw [e, Nat.mul_assoc] at this; omega
  · constructor
    · intro h
      refine Nat.mul_right_cancel hp ?_
      rw [e, Nat.mul_assoc, h]
    · intro h
      have : 2 ^ c * 2 ^ (64 - c) = 2 * v * 2 ^ (64 - c) := by rw [h]
      rw [e, Nat.mul_assoc] at this; omega
end Go.Flt
namespace Go.Proofs.YtdkhaibibpekoaaDoor.Pure
open Go.RowKit Go.Flt Go.Proofs.YtdkhaibibpekoaaDoor.Q Go.Proofs.YtdkhaibibpekoaaDoorW.PrintWords Go.Proofs.YtdkhaibibpekoaaDoorW.PrintLast Go.Proofs.YtdkhaibibpekoaaDoorW.PrintMore
set_option linter.unusedVariables false
theorem mx_max (a b : Int) : mx a b = max a b := by unfold mx; split <;> omega
theorem shl_u64 (N c : Nat) (h : c ≤ 64) : shl .u64 (N : Int) (c : Int) = ((N * 2 ^ c % 18446744073709551616 : Nat) : Int) := by
  unfold shl
  rw [Int.toNat_natCast, Nat.min_eq_left (show c ≤ IntKind.u64.bits from h), IntKind.wrap_u64, Int.natCast_emod, Int.natCast_mul, Int.natCast_pow]
  rfl
theorem shr_u64 (N c : Nat) (h : c ≤ 64) : shr .u64 (N : Int) (c : Int) = ((N / 2 ^ c : Nat) : Int) := by
  unfold shr
  rw [Int.toNat_natCast, Nat.min_eq_left (show c ≤ IntKind.u64.bits from h), Int.natCast_ediv, Int.natCast_pow]
  rfl
theorem len_f (N : Nat) (h1 : N < 18446744073709551616) : bits_Len64.f (N : Int) = some (Lib.bitLen N : Int) := by
  unfold bits_Len64.f
  rw [if_pos (by omega), Int.toNat_natCast]
/-- The end of rounded: q at a place that the format has. -/
theorem rounded_end (s : Bool) (q : Nat) (p : Int) (h : q ≤ 9007199254740992) (h1 : -1074 ≤ p) (h2 : p = -1074 ∨ 4503599627370496 ≤ q) (h3 : p ≤ 4000) :
    ((math_Ldexp.f (Go.floatOfInt .f64 (q : Int)) p).bind fun t => if s = true then some (Go.Op.negFloat .f64 t) else some t) = some (wd s q p) := by
  have e : math_Ldexp.f (Go.floatOfInt .f64 (q : Int)) p = some (wd false q p) := by
    rcases Nat.eq_zero_or_pos q with rfl | h0
    · have : p = -1074 := by omega
      subst this
      exact Ldexp_zero _
    · rw [Ldexp_f q p h0 h h1 h3, nearest_wd false q p h h1 h2]
  rw [e, Option.bind_some]
  cases s
  · rfl
  · rw [if_pos rfl, neg_wd]
theorem j2_f (k : Nat) (s : Bool) (e : Int) (c q : Nat) (up : Bool) (h0 : -2000 ≤ e) (h3 : e ≤ 2000) (hc : c ≤ 2000) (h : q + up.toNat ≤ 9007199254740992) (h1 : -1074 ≤ e + c) (h2 : e + c = -1074 ∨ 4503599627370496 ≤ q) :
    scale_rounded.j2 (k + 1) s e (c : Int) (q : Int) up = some (wd s (q + up.toNat) (e + c)) := by
  rw [scale_rounded.j2]
  rw [w64 (a := e + c) (by omega) (by omega)]
  cases up
  · rw [if_neg (by decide)]
    exact rounded_end s q (e + c) h h1 h2 (by omega)
  · rw [if_pos rfl]
    have a : (true : Bool).toNat = 1 := rfl
    rw [a] at h ⊢
    rw [wu64 (by omega) (by omega)]
    exact rounded_end s (q + 1) (e + c) h h1 (by omega) (by omega)
theorem j1_f (k : Nat) (s : Bool) (e : Int) (N c : Nat) (more : Bool) (rest : Nat) (h0 : -2000 ≤ e) (h3 : e ≤ 2000) (hc0 : 0 < c) (hc : c ≤ 2000) (hN : N < 18446744073709551616) (hq : N / 2 ^ c < 9007199254740992) (h1 : -1074 ≤ e + c) (h2 : e + c = -1074 ∨ 4503599627370496 ≤ N / 2 ^ c) (hr : c ≤ 64 → rest = N % 2 ^ c * 2 ^ (64 - c)) :
    scale_rounded.j1 (k + 2) s e more (c : Int) (rest : Int) ((N / 2 ^ c : Nat) : Int) = some (wd s (rm N c more) (e + c)) := by
  have key : ∀ up : Bool, up.toNat = (if 2 ^ c < 2 * (N % 2 ^ c) ∨ (2 ^ c = 2 * (N % 2 ^ c) ∧ (more = true ∨ N / 2 ^ c % 2 = 1)) then 1 else 0) → scale_rounded.j2 (k + 1) s e (c : Int) ((N / 2 ^ c : Nat) : Int) up = some (wd s (rm N c more) (e + c)) := fun up hup => by
    have : up.toNat ≤ 1 := by cases up <;> decide
    rw [j2_f k s e c _ up h0 h3 hc (by omega) h1 h2]
    unfold rm
    rw [hup]
  rw [scale_rounded.j1]
  by_cases c1 : c ≤ 64
  · obtain ⟨g1, g2⟩ := rest_half (N % 2 ^ c) c c1
    rw [← hr c1] at g1 g2
    rw [if_pos (by omega)]
    by_cases c2 : rest > 9223372036854775808
    · rw [if_pos (by omega)]
      refine key true ?_
      rw [if_pos (Or.inl (g1.mp c2))]; rfl
    · rw [if_neg (by omega)]
      by_cases c3 : rest = 9223372036854775808
      · rw [if_pos (by omega)]
        cases more
        · rw [if_neg (by decide)]
          have od : (Go.bits .and .u64 ((N / 2 ^ c : Nat) : Int) 1 == 1) = decide (N / 2 ^ c % 2 = 1) := by
            rw [show (1 : Int) = ((1 : Nat) : Int) by rfl, bits_and_u64_nat _ _ (by omega) (by decide), Nat.and_one_is_mod]
            by_cases d : N / 2 ^ c % 2 = 1
            · rw [d]; rfl
            · rw [show N / 2 ^ c % 2 = 0 by omega]; rfl
          rw [od]
          refine key _ ?_
          by_cases d : N / 2 ^ c % 2 = 1
          · rw [if_pos (Or.inr ⟨g2.mp c3, Or.inr d⟩), decide_eq_true d]; rfl
          · rw [if_neg (by rw [← g1]; rintro (h | ⟨_, h | h⟩); exact c2 h; exact absurd h (by decide); exact d h), decide_eq_false d]; rfl
        · rw [if_pos rfl]
          refine key true ?_
          rw [if_pos (Or.inr ⟨g2.mp c3, Or.inl rfl⟩)]; rfl
      · rw [if_neg (by omega)]
        refine key false ?_
        rw [if_neg (by rw [← g1, ← g2]; rintro (h | ⟨h, _⟩); exact c2 h; exact c3 h)]; rfl
  · rw [if_neg (by omega)]
    refine key false ?_
    have h64 : 2 ^ 65 ≤ 2 ^ c := Nat.pow_le_pow_right (by decide) (by omega)
    rw [Nat.mod_eq_of_lt (by omega), if_neg (by omega)]; rfl
theorem rounded_f (k : Nat) (s : Bool) (N : Nat) (e : Int) (more : Bool) (h0 : 0 < N) (hN : N < 18446744073709551616) (h1 : -1500 ≤ e) (h2 : e ≤ 1500) : scale_rounded.f (k + 3) s (N : Int) e more = some (nr s N e more) := by
  obtain ⟨b0, b1, b2, b3⟩ := bitLen_bounds N h0 hN
  unfold scale_rounded.f nr
  rw [if_neg (by omega), len_f N hN, Option.bind_some, mx_max, w64 (a := (Lib.bitLen N : Int) - 53) (by omega) (by omega), w64 (a := -1074 - e) (by omega) (by omega)]
  obtain ⟨c, hc⟩ : ∃ c : Int, c = max ((Lib.bitLen N : Int) - 53) (-1074 - e) := ⟨_, rfl⟩
  rw [← hc]
  by_cases p : 0 < c
  · obtain ⟨d, rfl⟩ := Int.eq_ofNat_of_zero_le (Int.le_of_lt p)
    rw [if_pos (show (d : Int) > 0 by omega), if_pos p, Int.toNat_natCast]
    have hq : N / 2 ^ d < 9007199254740992 := by
      rw [Nat.div_lt_iff_lt_mul (Nat.two_pow_pos _), show 9007199254740992 = 2 ^ 53 by rfl, ← Nat.pow_add]
      exact Nat.lt_of_lt_of_le b3 (Nat.pow_le_pow_right (by decide) (by omega))
    have hq2 : e + d = -1074 ∨ 4503599627370496 ≤ N / 2 ^ d := by
      by_cases z : e + d = -1074
      · exact Or.inl z
      · right
        rw [Nat.le_div_iff_mul_le (Nat.two_pow_pos _), show 4503599627370496 = 2 ^ 52 by rfl, ← Nat.pow_add, show 52 + d = Lib.bitLen N - 1 by omega]
        exact b2
    by_cases c1 : d ≤ 64
    · rw [if_pos (show (d : Int) ≤ 64 by omega), w64 (a := 64 - (d : Int)) (by omega) (by omega), if_pos (by omega), show (64 - (d : Int)) = ((64 - d : Nat) : Int) by omega, shl_u64 N _ (by omega), rest_top N d c1]
      rw [scale_rounded.j0]
      by_cases c2 : d < 64
      · rw [if_pos (show (d : Int) < 64 by omega), if_pos (by omega), shr_u64 N d c1]
        exact j1_f k s e N d more _ (by omega) (by omega) (by omega) (by omega) hN hq (by omega) hq2 (fun _ => rfl)
      · have : d = 64 := by omega
        subst this
        rw [if_neg (by decide)]
        have z : N / 2 ^ 64 = 0 := Nat.div_eq_of_lt (by omega)
        have := j1_f k s e N 64 more (N % 2 ^ 64 * 2 ^ (64 - 64)) (by omega) (by omega) (by omega) (by omega) hN hq (by omega) hq2 (fun _ => rfl)
        rw [z] at this
        exact this
    · rw [if_neg (show ¬ (d : Int) ≤ 64 by omega), scale_rounded.j0, if_neg (by omega)]
      have z : N / 2 ^ d = 0 := Nat.div_eq_of_lt (Nat.lt_of_lt_of_le hN (show 2 ^ 64 ≤ 2 ^ d from Nat.pow_le_pow_right (by decide) (by omega)))
      have := j1_f k s e N d more 0 (by omega) (by omega) (by omega) (by omega) hN hq (by omega) hq2 (fun h => absurd h c1)
      rw [z] at this
      exact this
  · rw [if_neg (by omega), if_neg p]
    have hm : N ≤ 9007199254740992 := by
      have : 2 ^ Lib.bitLen N ≤ 2 ^ 53 := Nat.pow_le_pow_right (by decide) (by omega)
      omega
    rw [Ldexp_f N e h0 hm (by omega) (by omega), Option.bind_some]
    cases s
    · rfl
    · rw [if_pos rfl, neg_nearest]
end Go.Proofs.YtdkhaibibpekoaaDoor.Pure
