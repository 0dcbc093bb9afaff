/- What the printed functions of scale say of the order of float64: the order of a key, a whole number. -/
import Derived.Test.YtdkhaibibpekoaaQ1
import Derived.Test.YtdkhaibibpekoaaFlt
import Derived.Laws.BitsAllLaws
namespace Go.Proofs.Ytdkhaibibpekoaa.Rank
open Go.RowKit Go.Flt Go.Proofs.Ytdkhaibibpekoaa.Q Go.Proofs.YtdkhaibibpekoaaW.PrintWords Go.Proofs.YtdkhaibibpekoaaW.PrintLast
set_option linter.unusedVariables false

/-- A whole number in whose order the float64 stand: by value, -0 ahead of +0, what is no number last. -/
def T (x : Nat) : Int := if nan x = true then 18446744073709551615 else if ng x = true then 9223372036854775807 - (rg x : Int) else 9223372036854775808 + (rg x : Int)
def cm (a b : Int) : Int := if a < b then -1 else if b < a then 1 else 0
theorem nan_iff (x : Nat) : nan x = true ↔ 9218868437227405312 < rg x := by unfold nan; exact decide_eq_true_iff
theorem T_nan {x : Nat} (h : nan x = true) : T x = 18446744073709551615 := by unfold T; rw [if_pos h]
theorem iv_pos {x : Nat} (h : ng x = false) : iv x = rg x := by unfold iv sv; rw [h]; rfl
theorem iv_neg {x : Nat} (h : ng x = true) : iv x = -(rg x : Int) := by unfold iv sv; rw [h]; rfl
theorem T_num {x : Nat} (h : nan x = false) : (ng x = true ∧ T x = 9223372036854775807 + iv x ∧ iv x ≤ 0 ∧ -9218868437227405312 ≤ iv x) ∨ (ng x = false ∧ T x = 9223372036854775808 + iv x ∧ 0 ≤ iv x ∧ iv x ≤ 9218868437227405312) := by
  have hb : ¬ (9218868437227405312 < rg x) := fun c => by rw [(nan_iff x).mpr c] at h; exact absurd h (by decide)
  unfold T
  rw [if_neg (by rw [h]; decide)]
  cases g : ng x with
  | true => left; rw [if_pos rfl, iv_neg g]; exact ⟨rfl, by omega, by omega, by omega⟩
  | false => right; rw [if_neg (by decide), iv_pos g]; exact ⟨rfl, by omega, by omega, by omega⟩
theorem order_self (x : Nat) : FloatKind.f64.format.order x x = if nan x = true then none else some .eq := by
  rw [order_eq]
  by_cases h : nan x = true
  · rw [if_pos (Or.inl h), if_pos h]
  · rw [if_neg (by simp [h]), if_neg h]
    unfold co; rw [if_neg (Int.lt_irrefl _), if_pos rfl]
theorem order_lt (x y : Nat) : (FloatKind.f64.format.order x y == some .lt) = decide (nan x = false ∧ nan y = false ∧ iv x < iv y) := by
  rw [order_eq]
  by_cases h : nan x = true ∨ nan y = true
  · rw [if_pos h]
    symm
    refine Eq.trans (decide_eq_false ?_) rfl
    rintro ⟨h1, h2, _⟩
    rw [h1, h2] at h
    exact absurd h (by decide)
  · rw [if_neg h]
    have h1 : nan x = false := by simpa using fun c => h (Or.inl c)
    have h2 : nan y = false := by simpa using fun c => h (Or.inr c)
    unfold co
    by_cases c : iv x < iv y
    · rw [if_pos c]; exact (decide_eq_true ⟨h1, h2, c⟩).symm
    · rw [if_neg c, decide_eq_false (fun hh => c hh.2.2)]; split <;> rfl
theorem order_gt (x y : Nat) : (FloatKind.f64.format.order x y == some .gt) = decide (nan x = false ∧ nan y = false ∧ iv y < iv x) := by
  rw [order_eq]
  by_cases h : nan x = true ∨ nan y = true
  · rw [if_pos h]
    symm
    refine Eq.trans (decide_eq_false ?_) rfl
    rintro ⟨h1, h2, _⟩
    rw [h1, h2] at h
    exact absurd h (by decide)
  · rw [if_neg h]
    have h1 : nan x = false := by simpa using fun c => h (Or.inl c)
    have h2 : nan y = false := by simpa using fun c => h (Or.inr c)
    unfold co
    by_cases c : iv y < iv x
    · rw [if_neg (by omega), if_neg (by omega)]; exact (decide_eq_true ⟨h1, h2, c⟩).symm
    · rw [decide_eq_false (fun hh => c hh.2.2)]; split
      · rfl
      · rw [if_pos (by omega)]; rfl
theorem order_ne {x y : Nat} (h1 : nan x = false) (h2 : nan y = false) : (FloatKind.f64.format.order x y != some .eq) = decide (iv x ≠ iv y) := by
  rw [order_eq, if_neg (by rw [h1, h2]; decide)]
  unfold co
  rcases Int.lt_trichotomy (iv x) (iv y) with c | c | c
  · rw [if_pos c, decide_eq_true (show iv x ≠ iv y by omega)]; rfl
  · rw [if_neg (by omega), if_pos c, decide_eq_false (fun hh => hh c)]; rfl
  · rw [if_neg (by omega), if_neg (by omega), decide_eq_true (show iv x ≠ iv y by omega)]; rfl
theorem self_eq (x : Nat) : (FloatKind.f64.format.order x x == some .eq) = !nan x := by
  rw [order_self]; cases nan x <;> rfl
theorem self_ne (x : Nat) : (FloatKind.f64.format.order x x != some .eq) = nan x := by
  rw [order_self]; cases nan x <;> rfl
theorem isnan_f (x : Nat) : math_IsNaN.f x = some (nan x) := by unfold math_IsNaN.f; rw [self_ne]
theorem signbit_f {x : Nat} (h : x < 18446744073709551616) : math_Signbit.f x = some (ng x) := by
  unfold math_Signbit.f ng
  have e : decide (wrap64 ((x : Nat) : Int) < 0) = (x / 9223372036854775808 % 2 == 1) := by
    rw [Bool.eq_iff_iff, decide_eq_true_iff, beq_iff_eq]
    unfold wrap64; omega
  rw [e]
theorem nan0 : nan 0 = false := by decide
theorem iv0 : iv 0 = 0 := by decide
def rk (x : Nat) : Int := if nan x = true then 4 else if iv x < 0 then 0 else if 0 < iv x then 3 else if ng x = true then 1 else 2
theorem rank_f {x : Nat} (h : x < 18446744073709551616) : scale_rank.f x = some (rk x) := by
  unfold scale_rank.f rk
  rw [isnan_f, Option.bind_some, order_lt, order_gt, signbit_f h, Option.bind_some, nan0, iv0]
  cases hn : nan x with
  | true => rfl
  | false =>
    rw [if_neg (show ¬ (false = true) by decide), if_neg (show ¬ (false = true) by decide)]
    by_cases c : iv x < 0
    · rw [if_pos (by simpa using c), if_pos c]
    · rw [if_neg (by simpa using c), if_neg c]
      by_cases c2 : 0 < iv x
      · rw [if_pos (by simpa using c2), if_pos c2]
      · rw [if_neg (by simpa using c2), if_neg c2]; split <;> rfl
theorem rk_T {x y : Nat} : (rk x < rk y → T x < T y) ∧ (rk y < rk x → T y < T x) ∧
    (rk x = rk y → (nan x = true ∧ nan y = true ∧ T x = T y) ∨ (nan x = false ∧ nan y = false ∧ (T x < T y ↔ iv x < iv y) ∧ (T y < T x ↔ iv y < iv x))) := by
  unfold rk
  cases hx : nan x with
  | true =>
    have tx := T_nan hx
    cases hy : nan y with
    | true => have ty := T_nan hy; simp; omega
    | false =>
      rcases T_num hy with ⟨g, t⟩ | ⟨g, t⟩
      · rw [g]; simp only [if_true, if_false, Bool.false_eq_true]
        refine ⟨fun c => ?_, fun c => by omega, fun c => ?_⟩ <;> exfalso <;> revert c <;> (repeat' split) <;> omega
      · rw [g]; simp only [if_true, if_false, Bool.false_eq_true]
        refine ⟨fun c => ?_, fun c => by omega, fun c => ?_⟩ <;> exfalso <;> revert c <;> (repeat' split) <;> omega
  | false =>
    cases hy : nan y with
    | true =>
      have ty := T_nan hy
      rcases T_num hx with ⟨g, t⟩ | ⟨g, t⟩
      · rw [g]; simp only [if_true, if_false, Bool.false_eq_true]
        refine ⟨fun c => by omega, fun c => ?_, fun c => ?_⟩ <;> exfalso <;> revert c <;> (repeat' split) <;> omega
      · rw [g]; simp only [if_true, if_false, Bool.false_eq_true]
        refine ⟨fun c => by omega, fun c => ?_, fun c => ?_⟩ <;> exfalso <;> revert c <;> (repeat' split) <;> omega
    | false =>
      simp only [if_false, Bool.false_eq_true, false_and, true_and, false_or]
      rcases T_num hx with ⟨g, t⟩ | ⟨g, t⟩ <;> rcases T_num hy with ⟨g', t'⟩ | ⟨g', t'⟩ <;> rw [g, g'] <;> simp only [if_true, if_false, Bool.false_eq_true] <;> (repeat' split) <;> omega
theorem strict_f {x y : Nat} (hx : x < 18446744073709551616) (hy : y < 18446744073709551616) (k : Nat) : scale_Strict.f (k + 1) x y = some (cm (T x) (T y)) := by
  obtain ⟨h1, h2, h3⟩ := @rk_T x y
  unfold scale_Strict.f cm
  rw [rank_f hx, Option.bind_some, rank_f hy, Option.bind_some]
  simp only [scale_Strict.j0, order_lt, order_gt]
  by_cases c1 : rk x < rk y
  · rw [if_pos c1, decide_eq_true c1, if_pos rfl, if_pos (h1 c1)]
  · rw [if_neg c1]
    by_cases c2 : rk x = rk y
    · rw [if_pos c2]
      rcases h3 c2 with ⟨n1, n2, e⟩ | ⟨n1, n2, l1, l2⟩
      · rw [n1, n2, if_neg (by simp), if_neg (by omega), if_pos c2, if_neg (by simp), if_neg (by omega), if_neg (by omega)]
      · rw [n1, n2]
        by_cases c3 : iv x < iv y
        · rw [if_pos (by simpa using c3), if_pos (l1.mpr c3)]
        · rw [if_neg (by simpa using c3), if_neg (by omega), if_pos c2, if_neg (fun h => c3 (l1.mp h))]
          by_cases c4 : iv y < iv x
          · rw [if_pos (by simpa using c4), if_pos (l2.mpr c4)]
          · rw [if_neg (by simpa using c4), if_neg (fun h => c4 (l2.mp h))]
    · rw [if_neg c2, if_neg (by decide), if_pos (by omega)]
      have := h2 (by omega)
      rw [if_neg (by omega), if_pos this]
/-- The sign turned. -/
theorem neg_lt {x : Nat} (h : x < 18446744073709551616) : Op.negFloat .f64 x < 18446744073709551616 ∧ rg (Op.negFloat .f64 x) = rg x ∧ ng (Op.negFloat .f64 x) = !ng x := by
  have e : Op.negFloat .f64 x = x ^^^ 2 ^ 63 := rfl
  rw [e]
  have hd : (x ^^^ 2 ^ 63) / 2 ^ 63 = x / 2 ^ 63 ^^^ 1 := by rw [Nat.xor_div_two_pow]
  have hm : (x ^^^ 2 ^ 63) % 2 ^ 63 = x % 2 ^ 63 := by rw [Nat.xor_mod_two_pow, Nat.mod_self, Nat.xor_zero]
  unfold rg ng
  rw [show (9223372036854775808 : Nat) = 2 ^ 63 from rfl, hd, hm]
  have hq : x / 2 ^ 63 = 0 ∨ x / 2 ^ 63 = 1 := by omega
  refine ⟨?_, rfl, ?_⟩
  · rcases hq with q | q
    · rw [q] at hd; have : (0 : Nat) ^^^ 1 = 1 := rfl; rw [this] at hd; omega
    · rw [q] at hd; have : (1 : Nat) ^^^ 1 = 0 := rfl; rw [this] at hd; omega
  · rcases hq with q | q <;> rw [q] <;> rfl
theorem neg_T {x : Nat} (h : x < 18446744073709551616) (hn : nan x = false) : T (Op.negFloat .f64 x) = 18446744073709551615 - T x := by
  obtain ⟨_, h1, h2⟩ := neg_lt h
  have hn' : nan (Op.negFloat .f64 x) = false := by unfold nan; rw [h1]; exact hn
  unfold T
  rw [hn, hn', h1, h2]
  cases ng x <;> simp <;> omega
theorem T_inj {x y : Nat} (hx : x < 18446744073709551616) (hy : y < 18446744073709551616) (h1 : nan x = false) (h2 : nan y = false) (h : T x = T y) : x = y := by
  have b1 : ¬ (9218868437227405312 < rg x) := fun c => by rw [(nan_iff x).mpr c] at h1; exact absurd h1 (by decide)
  have b2 : ¬ (9218868437227405312 < rg y) := fun c => by rw [(nan_iff y).mpr c] at h2; exact absurd h2 (by decide)
  unfold T at h
  rw [h1, h2] at h
  simp only [if_false, Bool.false_eq_true] at h
  unfold ng rg at *
  simp only [beq_iff_eq] at h
  split at h <;> split at h <;> omega
theorem copysign_f : math_Copysign.f 0 13830554455654793216 = some 9223372036854775808 := by decide +kernel
end Go.Proofs.Ytdkhaibibpekoaa.Rank
