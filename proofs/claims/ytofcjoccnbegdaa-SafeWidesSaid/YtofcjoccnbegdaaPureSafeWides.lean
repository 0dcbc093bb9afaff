/- Numbers of 128 bits: products, sums, the order, and back to 64 bits, all exact. -/
import Derived.Test.YtofcjoccnbegdaaQ18
import Derived.Test.YtofcjoccnbegdaaNum
namespace Go.Proofs.Ytofcjoccnbegdaa.Pure
open Go.RowKit Go.Proofs.Ytofcjoccnbegdaa.Q Go.Proofs.Ytofcjoccnbegdaa.Q.Big Go.Proofs.Ytofcjoccnbegdaa.Num Go.Proofs.YtofcjoccnbegdaaW.PrintWords Go.Proofs.YtofcjoccnbegdaaW.PrintLast
set_option linter.unusedVariables false

theorem wcompare_f (P R : Int) (k : Nat) : safeint_Compare.f (k + 1) (P / 18446744073709551616) (P % 18446744073709551616) (R / 18446744073709551616) (R % 18446744073709551616) = some (sgn P R) := by
  have key : ∀ b : Bool, (b = true ↔ P < R) → safeint_Compare.j0 (k + 1) b (P / 18446744073709551616) (P % 18446744073709551616) (R / 18446744073709551616) (R % 18446744073709551616) = some (sgn P R) := by
    intro b hb
    rw [safeint_Compare.j0]
    unfold sgn
    by_cases h : P < R
    · rw [if_pos (hb.mpr h), if_pos h]
    · rw [if_neg (fun c => h (hb.mp c)), if_neg h]
      by_cases h2 : P = R
      · rw [if_pos h2, if_pos (by simp [h2])]
      · rw [if_neg h2, if_neg (by simp only [Bool.and_eq_true, beq_iff_eq]; omega)]
  unfold safeint_Compare.f
  split
  · exact key _ (by constructor <;> intro h <;> first | rfl | omega)
  · split
    · exact key _ (by rw [decide_eq_true_iff]; omega)
    · exact key _ (by constructor <;> intro h <;> first | (exact absurd h (by decide)) | omega)
theorem awake_f : compasslaw01_awake.f = some true := by
  unfold compasslaw01_awake.f
  rw [mul_f 2147483648 2147483648 (by unfold I64; decide) (by unfold I64; decide), Option.bind_some]
  have : safeint_Sum.f [4611686018427387904, 4611686018427387904, -4611686018427387904] = some (4611686018427387904, 0) := by decide +kernel
  rw [this, Option.bind_some]
  decide

theorem B16 : B 16 = 115792089237316195423570985008687907853269984665640564039457584007913129639936 := by decide
theorem len16 {z : Int} (h : z.natAbs ≤ 340282366920938463463374607431768211456) : (dig z.natAbs).length ≤ 16 := dig_len_le _ _ (by rw [B16]; omega)
def U64 (a : Int) : Prop := 0 ≤ a ∧ a < 18446744073709551616
def W (h l : Int) : Int := h * 18446744073709551616 + l
theorem W_bounds {h l : Int} (hh : I64 h) (hl : U64 l) : -170141183460469231731687303715884105728 ≤ W h l ∧ W h l ≤ 170141183460469231731687303715884105727 := by unfold I64 U64 W at *; omega
theorem W_div {h l : Int} (hl : U64 l) : W h l / 18446744073709551616 = h ∧ W h l % 18446744073709551616 = l := by unfold U64 W at *; omega
theorem W_of (z : Int) : W (z / 18446744073709551616) (z % 18446744073709551616) = z := by unfold W; omega
theorem nat_big {a : Int} (h0 : 0 ≤ a) : (false, dig a.toNat) = big a := by
  unfold big
  rw [decide_eq_false (show ¬ (a < 0) by omega), show a.natAbs = a.toNat from by omega]
theorem wide_f {h l : Int} (hh : I64 h) (hl : U64 l) (k : Nat) (hk : 60 ≤ k) : compassref01_Wide.f k h l = some (big (W h l)) := by
  have b1 : (dig (9223372036854775808 : Int).natAbs).length ≤ 4 := len4 (by decide)
  have b2 := hh.len
  have b3 : (dig (h * 9223372036854775808).natAbs).length ≤ 8 := len8 (by unfold I64 at hh; omega)
  have b4 : (dig l.natAbs).length ≤ 8 := Nat.le_trans (len4 (by unfold U64 at hl; omega)) (by decide)
  have b5 : (dig (h * 9223372036854775808 + l).natAbs).length ≤ 8 := len8 (by unfold I64 U64 at *; omega)
  have t : compassref01_Times.f k (big h).1 (big h).2 (big 9223372036854775808).1 (big 9223372036854775808).2 = some (big (h * 9223372036854775808)) := by
    refine times_f h 9223372036854775808 k (by omega) (by omega) ?_
    have : (dig h.natAbs).length * ((dig (9223372036854775808 : Int).natAbs).length + 4) ≤ 4 * 8 := Nat.mul_le_mul b2 (by omega)
    omega
  have n1 : compassref01_Natural.f k false 9223372036854775808 = some (big 9223372036854775808) := by
    rw [natural_f false _ (by decide) (by decide) k (by omega), Bool.false_and, nat_big (by decide)]
  have n2 : compassref01_Natural.f k false l = some (big l) := by
    rw [natural_f false _ hl.1 hl.2 k (by omega), Bool.false_and, nat_big hl.1]
  have e : h * 9223372036854775808 + (h * 9223372036854775808 + l) = W h l := by unfold W; omega
  unfold compassref01_Wide.f
  rw [of64 hh k hk, Option.bind_some, n1, Option.bind_some, t, Option.bind_some, Option.bind_some, Option.bind_some, t, Option.bind_some, n2, Option.bind_some, plus8 b3 b4 k hk, Option.bind_some, plus8 b3 b5 k hk, Option.bind_some, e]
theorem lwide_f {h l : Int} (hh : I64 h) (hl : U64 l) (k : Nat) (hk : 60 ≤ k) : compasslaw01_wide.f k h l = some (big (W h l)) := by
  unfold compasslaw01_wide.f
  rw [wide_f hh hl k hk, Option.bind_some]
theorem wnarrow_f {h l : Int} (hh : I64 h) (hl : U64 l) : safeint_Narrow.f h l = some (fit (W h l)) := by
  unfold safeint_Narrow.f fit
  unfold I64 U64 at *
  by_cases c : -9223372036854775808 ≤ W h l ∧ W h l ≤ 9223372036854775807
  · rw [if_pos c, if_pos (by unfold wrap64; unfold W at c; omega)]
    congr 2
    unfold wrap64 W at *; omega
  · rw [if_neg c, if_neg (by unfold wrap64; unfold W at c; omega)]
/-- The sum of two wide numbers, or ErrWrap. -/
theorem plusHiLo {a x c y : Int} (ha : I64 a) (hx : U64 x) (hc : I64 c) (hy : U64 y) :
    (-170141183460469231731687303715884105728 ≤ W a x + W c y ∧ W a x + W c y ≤ 170141183460469231731687303715884105727 →
      I64 (plusHi a c x y) ∧ U64 (plusLo x y) ∧ W (plusHi a c x y) (plusLo x y) = W a x + W c y ∧ ¬ ((a < 0 ↔ c < 0) ∧ ¬ (plusHi a c x y < 0 ↔ a < 0))) ∧
    (¬ (-170141183460469231731687303715884105728 ≤ W a x + W c y ∧ W a x + W c y ≤ 170141183460469231731687303715884105727) → ((a < 0 ↔ c < 0) ∧ ¬ (plusHi a c x y < 0 ↔ a < 0))) := by
  unfold I64 U64 at *
  unfold W plusHi plusLo wrap64
  have hq : (x + y) / 18446744073709551616 = 0 ∧ (x + y) % 18446744073709551616 = x + y ∧ x + y < 18446744073709551616 ∨ (x + y) / 18446744073709551616 = 1 ∧ (x + y) % 18446744073709551616 = x + y - 18446744073709551616 ∧ 18446744073709551616 ≤ x + y := by omega
  rcases hq with ⟨h1, h2, h3⟩ | ⟨h1, h2, h3⟩
  · rw [h1, h2]; omega
  · rw [h1, h2]; omega
theorem wplus_f {a x c y : Int} (ha : I64 a) (hx : U64 x) (hc : I64 c) (hy : U64 y) :
    (-170141183460469231731687303715884105728 ≤ W a x + W c y ∧ W a x + W c y ≤ 170141183460469231731687303715884105727 →
      ∃ h l, I64 h ∧ U64 l ∧ W h l = W a x + W c y ∧ safeint_Plus.f a x c y = some (h, l, 0)) ∧
    (¬ (-170141183460469231731687303715884105728 ≤ W a x + W c y ∧ W a x + W c y ≤ 170141183460469231731687303715884105727) → safeint_Plus.f a x c y = some (0, 0, 10)) := by
  obtain ⟨k1, k2⟩ := plusHiLo ha hx hc hy
  constructor
  · intro h
    obtain ⟨i1, i2, i3, i4⟩ := k1 h
    refine ⟨_, _, i1, i2, i3, ?_⟩
    unfold safeint_Plus.f
    rw [if_pos ⟨hx.1, hy.1⟩]
    split
    · rename_i h1
      split
      · rename_i h2
        exact absurd ⟨by simpa using h1, by simpa using h2⟩ i4
      · rfl
    · rfl
  · intro h
    obtain ⟨i1, i2⟩ := k2 h
    unfold safeint_Plus.f
    rw [if_pos ⟨hx.1, hy.1⟩, if_pos (by simpa using i1), if_pos (by simpa using i2)]
theorem fits_f {z : Int} (hz : (dig z.natAbs).length ≤ 16) (k : Nat) (hk : 60 ≤ k) : compassref01_Fits.f k (big z).1 (big z).2 = some (decide (-170141183460469231731687303715884105728 ≤ z ∧ z ≤ 170141183460469231731687303715884105727)) := by
  have l1 : (dig (-170141183460469231731687303715884105728 : Int).natAbs).length ≤ 16 := len16 (by decide)
  have l2 : (dig (170141183460469231731687303715884105727 : Int).natAbs).length ≤ 16 := len16 (by decide)
  unfold compassref01_Fits.f
  rw [wide_f (h := -9223372036854775808) (l := 0) (by unfold I64; decide) (by unfold U64; decide) k hk, Option.bind_some, wide_f (h := 9223372036854775807) (l := 18446744073709551615) (by unfold I64; decide) (by unfold U64; decide) k hk, Option.bind_some,
    show W (-9223372036854775808) 0 = -170141183460469231731687303715884105728 from by decide, show W 9223372036854775807 18446744073709551615 = 170141183460469231731687303715884105727 from by decide,
    compare16 hz l1 k hk, Option.bind_some, compare16 hz l2 k hk, Option.bind_some]
  unfold sgn
  by_cases c1 : z < -170141183460469231731687303715884105728
  · rw [if_pos c1, if_neg (by decide), decide_eq_false (by omega)]
  · rw [if_neg c1, if_pos (by split <;> decide)]
    congr 1
    by_cases c2 : z ≤ 170141183460469231731687303715884105727
    · rw [decide_eq_true (show _ ∧ _ from ⟨by omega, c2⟩)]
      apply decide_eq_true
      split
      · decide
      · rw [if_pos (by omega)]; decide
    · rw [decide_eq_false (show ¬ (-170141183460469231731687303715884105728 ≤ z ∧ z ≤ 170141183460469231731687303715884105727) from by omega)]
      apply decide_eq_false
      rw [if_neg (by omega), if_neg (by omega)]; decide
theorem sgn_self (x : Int) : sgn x x = 0 := by unfold sgn; rw [if_neg (Int.lt_irrefl _), if_pos rfl]
theorem widen_W {a : Int} (ha : I64 a) : I64 (a / 9223372036854775808) ∧ U64 (IntKind.u64.wrap a) ∧ W (a / 9223372036854775808) (IntKind.u64.wrap a) = a := by
  rw [wu64]; unfold I64 U64 W at *; omega
theorem wprod_W {a b : Int} (ha : I64 a) (hb : I64 b) : I64 (a * b / 18446744073709551616) ∧ U64 (a * b % 18446744073709551616) := by
  have h := mul_natAbs_lt ha hb
  generalize a * b = P at *
  unfold I64 U64; omega
theorem fin {a x c y : Int} (ha : I64 a) (hx : U64 x) (hc : I64 c) (hy : U64 y) (k : Nat) (hk : 60 ≤ k) : compasslaw01_SafeWides.j2 (k + 1) false a x c y = some true := by
  have bX := W_bounds ha hx
  have bY := W_bounds hc hy
  have lX : (dig (W a x).natAbs).length ≤ 8 := len8 (by omega)
  have lY : (dig (W c y).natAbs).length ≤ 8 := len8 (by omega)
  have lS : (dig (W a x + W c y).natAbs).length ≤ 16 := len16 (by omega)
  obtain ⟨k1, k2⟩ := wplus_f ha hx hc hy
  rw [compasslaw01_SafeWides.j2, if_neg (by decide)]
  by_cases h : -170141183460469231731687303715884105728 ≤ W a x + W c y ∧ W a x + W c y ≤ 170141183460469231731687303715884105727
  · obtain ⟨p, q, hp, hq, e, f⟩ := k1 h
    rw [f, Option.bind_some, lwide_f ha hx k hk, Option.bind_some, lwide_f hc hy k hk, Option.bind_some, plus8 lX lY k hk, Option.bind_some, fits_f lS k hk, Option.bind_some, if_pos (by simpa using h), if_pos rfl,
      lwide_f hp hq k hk, Option.bind_some, e, compare16 lS lS k hk, Option.bind_some, sgn_self]; rfl
  · rw [k2 h, Option.bind_some, lwide_f ha hx k hk, Option.bind_some, lwide_f hc hy k hk, Option.bind_some, plus8 lX lY k hk, Option.bind_some, fits_f lS k hk, Option.bind_some, if_neg (by simpa using h), if_pos rfl]; rfl
theorem wcomp {a x c y : Int} (hx : U64 x) (hy : U64 y) (k : Nat) : safeint_Compare.f (k + 1) a x c y = some (sgn (W a x) (W c y)) := by
  have h := wcompare_f (W a x) (W c y) k
  rw [(W_div hx).1, (W_div hx).2, (W_div hy).1, (W_div hy).2] at h
  exact h
theorem SafeWides : ∀ (a x c y z : Int), I64 a → U64 x → I64 c → U64 y → I64 z → ∃ k, compasslaw01_SafeWides.f k a x c y z = some true := by
  intro a x c y z ha hx hc hy hz
  refine ⟨102, ?_⟩
  have bX := W_bounds ha hx
  have bY := W_bounds hc hy
  have lX : (dig (W a x).natAbs).length ≤ 16 := len16 (by omega)
  have lY : (dig (W c y).natAbs).length ≤ 16 := len16 (by omega)
  have lP : (dig (z * a).natAbs).length ≤ 16 := len16 (by have := mul_natAbs_lt hz ha; omega)
  have lz : (dig z.natAbs).length ≤ 16 := len16 (by unfold I64 at hz; omega)
  have pw := wprod_W hz ha
  have ww := widen_W hz
  unfold compasslaw01_SafeWides.f
  rw [awake_f, Option.bind_some, if_pos rfl, product_f (-1) 1 (by unfold I64; decide) (by unfold I64; decide), Option.bind_some,
    show (!((-1 : Int) * 1 / 18446744073709551616 == -1) || (!((-1 : Int) * 1 % 18446744073709551616 == 18446744073709551615))) = false from by decide]
  rw [show (102 : Nat) = 101 + 1 from rfl, compasslaw01_SafeWides.j0, if_neg (by decide), product_f z a hz ha, Option.bind_some, lwide_f pw.1 pw.2 101 (by decide), Option.bind_some, W_of, of64 hz 101 (by decide), Option.bind_some,
    of64 ha 101 (by decide), Option.bind_some, times64 hz ha 101 (by decide), Option.bind_some, compare16 lP lP 101 (by decide), Option.bind_some, if_pos (sgn_self _),
    wcomp hx hy 100, Option.bind_some, lwide_f ha hx 101 (by decide), Option.bind_some, lwide_f hc hy 101 (by decide), Option.bind_some, compare16 lX lY 101 (by decide), Option.bind_some, if_pos rfl,
    wcomp hx hx 100, Option.bind_some, sgn_self, show ((0 : Int) != 0) = false from rfl]
  rw [show (101 : Nat) = 100 + 1 from rfl, compasslaw01_SafeWides.j1, if_neg (by decide), wnarrow_f ha hx, Option.bind_some, lwide_f ha hx 100 (by decide), Option.bind_some, narrow_f _ 100 (by decide), Option.bind_some, if_pos rfl, if_pos rfl]
  unfold safeint_Widen.f
  rw [Option.bind_some, lwide_f ww.1 ww.2.1 100 (by decide), Option.bind_some, ww.2.2, of64 hz 100 (by decide), Option.bind_some, compare16 lz lz 100 (by decide), Option.bind_some, sgn_self, show ((0 : Int) != 0) = false from rfl]
  exact fin ha hx hc hy 99 (by decide)
end Go.Proofs.Ytofcjoccnbegdaa.Pure
