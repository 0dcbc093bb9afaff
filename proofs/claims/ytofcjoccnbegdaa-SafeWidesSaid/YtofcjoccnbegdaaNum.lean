/- Whole numbers of 64 bits: what the printed functions of safeint and of the document's numbers of any length come to. -/
import Derived.Test.YtofcjoccnbegdaaQ13
import Derived.Test.YtofcjoccnbegdaaQ14
import Derived.Test.YtofcjoccnbegdaaQ17
import Derived.Test.YtofcjoccnbegdaaQ20
import Derived.Test.YtofcjoccnbegdaaBig
import Derived.Laws.MathBits
namespace Go.Proofs.Ytofcjoccnbegdaa.Num
open Go.RowKit Go.Proofs.Ytofcjoccnbegdaa.Q Go.Proofs.Ytofcjoccnbegdaa.Q.Big Go.Proofs.YtofcjoccnbegdaaW.PrintWords Go.Proofs.YtofcjoccnbegdaaW.PrintLast

set_option linter.unusedVariables false
theorem wf_bounds {a : Int} (h : (Lit.int .i64 a).wf = true) : -9223372036854775808 ≤ a ∧ a ≤ 9223372036854775807 := by
  simpa [Lit.wf, IntKind.min, IntKind.max, IntKind.signed, IntKind.bits] using h
theorem B4 : B 4 = 18446744073709551616 := by decide
theorem B8 : B 8 = 340282366920938463463374607431768211456 := by decide
theorem len4 {z : Int} (h : z.natAbs < 18446744073709551616) : (dig z.natAbs).length ≤ 4 := dig_len_le _ _ (by rw [B4]; omega)
theorem len8 {z : Int} (h : z.natAbs < 340282366920938463463374607431768211456) : (dig z.natAbs).length ≤ 8 := dig_len_le _ _ (by rw [B8]; omega)
def I64 (a : Int) : Prop := -9223372036854775808 ≤ a ∧ a ≤ 9223372036854775807
theorem I64.len {a : Int} (h : I64 a) : (dig a.natAbs).length ≤ 4 := len4 (by unfold I64 at h; omega)
theorem mul_natAbs_lt {a b : Int} (ha : I64 a) (hb : I64 b) : (a * b).natAbs ≤ 85070591730234615865843651857942052864 := by
  rw [Int.natAbs_mul]
  have h1 : a.natAbs ≤ 9223372036854775808 := by unfold I64 at ha; omega
  have h2 : b.natAbs ≤ 9223372036854775808 := by unfold I64 at hb; omega
  exact Nat.mul_le_mul h1 h2
theorem of64 {z : Int} (h : I64 z) (k : Nat) (hk : 60 ≤ k) : compassref01_Of.f k z = some (big z) := of_f z h.1 h.2 k (by omega)
theorem times64 {x y : Int} (hx : I64 x) (hy : I64 y) (k : Nat) (hk : 60 ≤ k) : compassref01_Times.f k (big x).1 (big x).2 (big y).1 (big y).2 = some (big (x * y)) := by
  have h1 := hx.len
  have h2 := hy.len
  refine times_f x y k (by omega) (by omega) ?_
  have : (dig x.natAbs).length * ((dig y.natAbs).length + 4) ≤ 4 * 8 := Nat.mul_le_mul h1 (by omega)
  omega
theorem plus8 {x y : Int} (hx : (dig x.natAbs).length ≤ 8) (hy : (dig y.natAbs).length ≤ 8) (k : Nat) (hk : 60 ≤ k) : compassref01_Plus.f k (big x).1 (big x).2 (big y).1 (big y).2 = some (big (x + y)) :=
  plus_f x y k (by omega) (by omega) (by omega)
theorem compare16 {x y : Int} (hx : (dig x.natAbs).length ≤ 16) (hy : (dig y.natAbs).length ≤ 16) (k : Nat) (hk : 60 ≤ k) : compassref01_Compare.f k (big x).1 (big x).2 (big y).1 (big y).2 = some (sgn x y) :=
  compare_f x y k (by omega) (by omega) (by omega) (by omega)


/-- What fits in 64 bits, with no error; else 0 and ErrWrap. -/
def fit (z : Int) : Int × Int := if -9223372036854775808 ≤ z ∧ z ≤ 9223372036854775807 then (z, 0) else (0, 10)

theorem narrow_l0 (m : Bool) (l : List Int) (hd : Dig l) (hl : l.length ≤ 4) : ∀ (i k : Nat), i ≤ l.length → i < k →
    compassref01_Narrow.l0 k (val (l.drop i)) ((i : Int) - 1) m l = compassref01_Narrow.l0 (k - i) (val l) (-1) m l := by
  intro i
  induction i with
  | zero => intro k _ _; simp
  | succ i ih =>
    intro k hi hk
    obtain ⟨k, rfl⟩ : ∃ m, k = m + 1 := ⟨k - 1, by omega⟩
    have h2 := dig_get hd i
    have h3 := val_nonneg (dig_drop hd (i + 1))
    have h4 : val (l.drop (i + 1)) < 281474976710656 := by
      have h := val_lt (dig_drop hd (i + 1))
      have h5 := B_mono (show (l.drop (i + 1)).length ≤ 3 by rw [List.length_drop]; omega)
      rw [show B 3 = 281474976710656 from by decide] at h5
      omega
    have hdrop : val (l.drop i) = l.getD i 0 + 65536 * val (l.drop (i + 1)) := by
      rw [List.drop_eq_getElem_cons (by omega), val, List.getD_eq_getElem?_getD, List.getElem?_eq_getElem (by omega)]; rfl
    have e : ((i + 1 : Nat) : Int) - 1 = (i : Int) := by omega
    have e2 : wrap64 ((i : Int) - 1) = (i : Int) - 1 := wr64 (by omega) (by omega)
    have e3 : IntKind.u64.wrap (IntKind.u64.wrap (val (l.drop (i + 1)) * 65536) + l.getD i 0) = val (l.drop i) := by rw [wu64, wu64, hdrop]; omega
    have g1 : (i : Int) ≥ 0 := by omega
    have g2 : (i : Int) < (l.length : Int) := by omega
    have hk' : k + 1 - (i + 1) = k - i := by omega
    rw [e, hk', ← ih k (by omega) (by omega)]
    rw [compassref01_Narrow.l0]
    rw [if_pos g1, if_pos g1, if_pos g2, rd_get, e3, e2]
theorem narrow_f (z : Int) (k : Nat) (hk : 60 ≤ k) : compassref01_Narrow.f k (big z).1 (big z).2 = some (fit z) := by
  unfold compassref01_Narrow.f big fit
  dsimp only
  by_cases h : ((dig z.natAbs).length : Int) > 4
  · rw [if_pos h]
    have h0 : z.natAbs ≠ 0 := by intro h0; rw [h0, dig_zero] at h; simp at h
    have h1 := dig_length_lt h0
    have h2 := B_mono (show 4 ≤ (dig z.natAbs).length - 1 by omega)
    rw [B4] at h2
    rw [if_neg (by omega)]
  · rw [if_neg h]
    have hl : (dig z.natAbs).length ≤ 4 := by omega
    have e : wrap64 (((dig z.natAbs).length : Int) - 1) = ((dig z.natAbs).length : Int) - 1 := wr64 (by omega) (by omega)
    have hn := narrow_l0 (decide (z < 0)) (dig z.natAbs) (dig_dig _) hl (dig z.natAbs).length k (Nat.le_refl _) (by omega)
    rw [List.drop_length] at hn
    have hv := val_lt (dig_dig z.natAbs)
    have h5 := B_mono hl
    rw [B4] at h5
    rw [val_dig] at hv hn
    rw [e]
    refine Eq.trans hn ?_
    obtain ⟨k', hk'⟩ : ∃ m, k - (dig z.natAbs).length = m + 1 := ⟨k - (dig z.natAbs).length - 1, by omega⟩
    rw [hk', compassref01_Narrow.l0, if_neg (by decide)]
    clear hn e hk' h
    have hv' : (z.natAbs : Int) < 18446744073709551616 := by omega
    clear hv h5 hl hk
    by_cases hz : z < 0
    · rw [if_pos (by simpa using hz)]
      by_cases h9 : (z.natAbs : Int) > 9223372036854775808
      · rw [if_pos h9, if_neg (by omega)]
      · rw [if_neg h9, if_pos (by omega)]
        congr 2
        rw [wu64]; unfold wrap64; omega
    · rw [if_neg (by simpa using hz)]
      by_cases h9 : (z.natAbs : Int) ≥ 9223372036854775808
      · rw [if_pos h9, if_neg (by omega)]
      · rw [if_neg h9, if_pos (by omega)]
        congr 2
        unfold wrap64; omega
theorem less_f (z : Int) : compassref01_Less.f (big z).1 (big z).2 = some (big (-z)) := by
  unfold compassref01_Less.f big
  dsimp only
  rw [Int.natAbs_neg]
  by_cases h : z < 0
  · rw [if_pos (by simpa using h), decide_eq_false (by omega : ¬ (-z < 0))]
  · rw [if_neg (by simpa using h)]
    by_cases h0 : z.natAbs = 0
    · rw [h0, dig_zero, decide_eq_false (by omega : ¬ (-z < 0))]; rfl
    · rw [dig_pos h0, decide_eq_true (by omega : -z < 0)]; simp
theorem add_f (a b : Int) (ha : I64 a) (hb : I64 b) : safeint_Add.f a b = some (fit (a + b)) := by
  unfold I64 at *
  unfold safeint_Add.f fit
  by_cases h : -9223372036854775808 ≤ a + b ∧ a + b ≤ 9223372036854775807
  · rw [if_pos h]
    have e : wrap64 (a + b) = a + b := wr64 h.1 h.2
    rw [e]
    split
    · rename_i hc
      have hc' : ¬ (a + b > a ↔ b > 0) := by simpa [bne_iff_ne, decide_eq_decide] using hc
      exact absurd (show (a + b > a ↔ b > 0) by omega) hc'
    · rfl
  · rw [if_neg h]
    have e : ¬ (wrap64 (a + b) > a ↔ b > 0) := by unfold wrap64; omega
    rw [if_pos (by simpa [bne_iff_ne, decide_eq_decide] using e), if_neg (by omega)]
theorem sub_f (a b : Int) (ha : I64 a) (hb : I64 b) : safeint_Sub.f a b = some (fit (a - b)) := by
  unfold I64 at *
  unfold safeint_Sub.f fit
  by_cases h : -9223372036854775808 ≤ a - b ∧ a - b ≤ 9223372036854775807
  · rw [if_pos h]
    have e : wrap64 (a - b) = a - b := wr64 h.1 h.2
    rw [e]
    split
    · rename_i hc
      have hc' : ¬ (a - b < a ↔ b > 0) := by simpa [bne_iff_ne, decide_eq_decide] using hc
      exact absurd (show (a - b < a ↔ b > 0) by omega) hc'
    · rfl
  · rw [if_neg h]
    have e : ¬ (wrap64 (a - b) < a ↔ b > 0) := by unfold wrap64; omega
    rw [if_pos (by simpa [bne_iff_ne, decide_eq_decide] using e), if_neg (by omega)]

theorem mul64_f (x y : Int) (hx0 : 0 ≤ x) (hx : x < 18446744073709551616) (hy0 : 0 ≤ y) (hy : y < 18446744073709551616) :
    bits_Mul64.f x y = some (x * y / 18446744073709551616, x * y % 18446744073709551616) := by
  have hT : ∀ z : Int, Go.bits .and .u64 (IntKind.u64.wrap z) 4294967295 = (z % 18446744073709551616) % 4294967296 := fun z => by
    rw [wu64]; exact and_low32 _ (by omega) (by omega)
  unfold bits_Mul64.f
  rw [and_low32 x hx0 hx, and_low32 y hy0 hy, hT]
  simp only [wu64]
  rw [mul64_arith x y hx0 hx hy0 hy]
theorem mulMM (a b : Int) : (a + 18446744073709551616) * (b + 18446744073709551616) = a * b + 18446744073709551616 * (a + b + 18446744073709551616) := by grind
theorem mulM1 (a b : Int) : (a + 18446744073709551616) * b = a * b + 18446744073709551616 * b := by grind
theorem mulM2 (a b : Int) : a * (b + 18446744073709551616) = a * b + 18446744073709551616 * a := by grind
theorem fin1 (P s : Int) (h0 : -85070591730234615865843651857942052864 ≤ P) (h1 : P ≤ 85070591730234615865843651857942052864) :
    (P + 18446744073709551616 * s) / 18446744073709551616 = P / 18446744073709551616 + s ∧ (P + 18446744073709551616 * s) % 18446744073709551616 = P % 18446744073709551616 := by omega
theorem fin2 (q a b : Int) (h0 : -4611686018427387904 ≤ q) (h1 : q ≤ 4611686018427387904) :
    wrap64 (wrap64 (wrap64 (q + (a + b + 18446744073709551616)) - b) - a) = q ∧ wrap64 (wrap64 (q + b) - b) = q ∧ wrap64 (wrap64 (q + a) - a) = q ∧ wrap64 q = q := by unfold wrap64; omega
theorem product_f (a b : Int) (ha : I64 a) (hb : I64 b) : safeint_Product.f a b = some (a * b / 18446744073709551616, a * b % 18446744073709551616) := by
  have hP := mul_natAbs_lt ha hb
  have h0 : -85070591730234615865843651857942052864 ≤ a * b := by clear ha hb; omega
  have h1 : a * b ≤ 85070591730234615865843651857942052864 := by clear ha hb h0; omega
  clear hP
  unfold I64 at *
  unfold safeint_Product.f
  have ea : IntKind.u64.wrap a = if a < 0 then a + 18446744073709551616 else a := by rw [wu64]; split <;> omega
  have eb : IntKind.u64.wrap b = if b < 0 then b + 18446744073709551616 else b := by rw [wu64]; split <;> omega
  have bq : -4611686018427387904 ≤ a * b / 18446744073709551616 ∧ a * b / 18446744073709551616 ≤ 4611686018427387904 := by clear ea eb ha hb; omega
  have f2 := fin2 (a * b / 18446744073709551616) a b bq.1 bq.2
  rw [mul64_f _ _ (by rw [wu64]; omega) (by rw [wu64]; omega) (by rw [wu64]; omega) (by rw [wu64]; omega)]
  rw [Option.bind_some, ea, eb]
  by_cases h2 : a < 0
  · by_cases h3 : b < 0
    · rw [if_pos h2, if_pos h3, if_pos h2, if_pos h3, mulMM, (fin1 _ _ h0 h1).1, (fin1 _ _ h0 h1).2, f2.1]
    · rw [if_pos h2, if_neg h3, if_pos h2, if_neg h3, mulM1, (fin1 _ _ h0 h1).1, (fin1 _ _ h0 h1).2, f2.2.1]
  · by_cases h3 : b < 0
    · rw [if_neg h2, if_pos h3, if_neg h2, if_pos h3, mulM2, (fin1 _ _ h0 h1).1, (fin1 _ _ h0 h1).2, f2.2.2.1]
    · rw [if_neg h2, if_neg h3, if_neg h2, if_neg h3, f2.2.2.2]
theorem mul_f (a b : Int) (ha : I64 a) (hb : I64 b) : safeint_Mul.f a b = some (fit (a * b)) := by
  unfold safeint_Mul.f
  rw [product_f a b ha hb, Option.bind_some]
  unfold safeint_Narrow.f fit
  generalize a * b = P
  by_cases h : -9223372036854775808 ≤ P ∧ P ≤ 9223372036854775807
  · rw [if_pos h, if_pos (by unfold wrap64; omega), Option.bind_some]
    congr 2
    unfold wrap64; omega
  · rw [if_neg h, if_neg (by unfold wrap64; omega), Option.bind_some]
theorem fit_I64 (z : Int) : I64 (fit z).1 := by
  unfold fit I64
  split
  · assumption
  · decide
theorem wf_I64 {a : Int} (h : (Lit.int .i64 a).wf = true) : I64 a := wf_bounds h
end Go.Proofs.Ytofcjoccnbegdaa.Num
