/- Fractions are held against each other exactly, whatever their signs. -/
import Derived.Test.YtofcjoccnbegdaaQ14
import Derived.Test.YtofcjoccnbegdaaQ15
import Derived.Test.YtofcjoccnbegdaaNum
namespace Go.Proofs.Ytofcjoccnbegdaa.Pure
open Go.RowKit Go.Proofs.Ytofcjoccnbegdaa.Q Go.Proofs.Ytofcjoccnbegdaa.Q.Big Go.Proofs.Ytofcjoccnbegdaa.Num Go.Proofs.YtofcjoccnbegdaaW.PrintWords Go.Proofs.YtofcjoccnbegdaaW.PrintLast
set_option linter.unusedVariables false

theorem wcompare_f (P R : Int) (k : Nat) : safeint_Compare.f (k + 1) (P / 18446744073709551616) (P % 18446744073709551616) (R / 18446744073709551616) (R % 18446744073709551616) = some (sgn P R) := by
  have key : ∀ b : Bool, (b = true ↔ P < R) → safeint_Compare.j0 (k + 1) b (P / 18446744073709551616) (P % 18446744073709551616) (R / 18446744073709551616) (R % 18446744073709551616) = some (sgn P R) := by
    intro b hb
    rw [safeint_Compare.j0]
    unfold sgn
    by_cases h : P < R
    · rw [if_pos (hb.mpr h), if_pos h]
    · rw [if_neg (fun c => h (hb.mp c)), if_neg h]
      by_cases h2 : P = R
      · rw [if_pos h2, if_pos (by simp [h2])]
      · rw [if_neg h2, if_neg (by simp only [Bool.and_eq_true, beq_iff_eq]; omega)]
  unfold safeint_Compare.f
  split
  · exact key _ (by constructor <;> intro h <;> first | rfl | omega)
  · split
    · exact key _ (by rw [decide_eq_true_iff]; omega)
    · exact key _ (by constructor <;> intro h <;> first | (exact absurd h (by decide)) | omega)
def ordVal (a b c d : Int) : Int := if ((decide (b < 0)) != (decide (d < 0))) = true then sgn (c * b) (a * d) else sgn (a * d) (c * b)
def ordSaid (a b c d : Int) : Int × Int := if b = 0 ∨ d = 0 then (0, 11) else (ordVal a b c d, 0)
theorem sgn_neg (x y : Int) : wrap64 (-(sgn x y)) = sgn y x := by
  unfold sgn
  rcases Int.lt_trichotomy x y with h | h | h
  · rw [if_pos h, if_neg (by omega), if_neg (by omega)]; unfold wrap64; decide
  · rw [if_neg (by omega), if_pos h, if_neg (by omega), if_pos h.symm]; unfold wrap64; decide
  · rw [if_neg (by omega), if_neg (by omega), if_pos h]; unfold wrap64; decide
theorem order_f {a b c d : Int} (ha : I64 a) (hb : I64 b) (hc : I64 c) (hd : I64 d) (k : Nat) : safeint_Order.f (k + 2) a b c d = some (ordSaid a b c d) := by
  have key : ∀ z : Bool, (z = true ↔ (b = 0 ∨ d = 0)) → safeint_Order.j0 (k + 2) a b c d z = some (ordSaid a b c d) := by
    intro z hz
    rw [safeint_Order.j0]
    unfold ordSaid
    by_cases h : b = 0 ∨ d = 0
    · rw [if_pos (hz.mpr h), if_pos h]
    · rw [if_neg (fun c => h (hz.mp c)), if_neg h, product_f a d ha hd, Option.bind_some, product_f c b hc hb, Option.bind_some, wcompare_f, Option.bind_some, sgn_neg]
      unfold ordVal
      split <;> rfl
  unfold safeint_Order.f
  by_cases h : b = 0
  · rw [if_pos h]; exact key _ (by simp [h])
  · rw [if_neg h]; exact key _ (by simp [h])
theorem rorder_f {a b c d : Int} (ha : I64 a) (hb : I64 b) (hc : I64 c) (hd : I64 d) (k : Nat) (hk : 60 ≤ k) : compassref01_Order.f (k + 1) a b c d = some (ordSaid a b c d) := by
  have l1 : (dig (a * d).natAbs).length ≤ 16 := Nat.le_trans (len8 (by have := mul_natAbs_lt ha hd; omega)) (by decide)
  have l2 : (dig (c * b).natAbs).length ≤ 16 := Nat.le_trans (len8 (by have := mul_natAbs_lt hc hb; omega)) (by decide)
  have key : ∀ z : Bool, (z = true ↔ (b = 0 ∨ d = 0)) → compassref01_Order.j0 (k + 1) a b c d z = some (ordSaid a b c d) := by
    intro z hz
    rw [compassref01_Order.j0]
    unfold ordSaid
    by_cases h : b = 0 ∨ d = 0
    · rw [if_pos (hz.mpr h), if_pos h]
    · rw [if_neg (fun c => h (hz.mp c)), if_neg h, of64 ha k hk, Option.bind_some, of64 hd k hk, Option.bind_some, times64 ha hd k hk, Option.bind_some,
        of64 hc k hk, Option.bind_some, of64 hb k hk, Option.bind_some, times64 hc hb k hk, Option.bind_some, compare16 l1 l2 k hk, Option.bind_some, compare16 l2 l1 k hk, Option.bind_some]
      unfold ordVal
      split <;> rfl
  unfold compassref01_Order.f
  by_cases h : b = 0
  · rw [if_pos h]; exact key _ (by simp [h])
  · rw [if_neg h]; exact key _ (by simp [h])
theorem ordVal_back (a b c d : Int) : ordVal c d a b = wrap64 (-(ordVal a b c d)) := by
  unfold ordVal
  by_cases h1 : b < 0 <;> by_cases h2 : d < 0 <;> simp [h1, h2, sgn_neg]
theorem ordSaid_back (a b c d : Int) : (ordSaid c d a b).2 = (ordSaid a b c d).2 ∧ (ordSaid c d a b).1 = wrap64 (-(ordSaid a b c d).1) := by
  unfold ordSaid
  by_cases h : b = 0 ∨ d = 0
  · rw [if_pos h, if_pos (by omega)]; exact ⟨rfl, by unfold wrap64; decide⟩
  · rw [if_neg h, if_neg (by omega)]; exact ⟨rfl, ordVal_back a b c d⟩
theorem fit_ok {z : Int} (h : (fit z).2 = 0) : (fit z).1 = z := by
  unfold fit at *
  split
  · rfl
  · rename_i c; rw [if_neg c] at h; exact absurd h (by decide)
theorem ordSaid_same {a b k : Int} (hb : b ≠ 0) (hk : k ≠ 0) : ordSaid a b (a * k) (b * k) = (0, 0) := by
  have h : b * k ≠ 0 := Int.mul_ne_zero hb hk
  have e : a * (b * k) = a * k * b := by grind
  unfold ordSaid ordVal
  rw [if_neg (by omega), e]
  have : sgn (a * k * b) (a * k * b) = 0 := by unfold sgn; rw [if_neg (Int.lt_irrefl _), if_pos rfl]
  rw [this]
  split <;> rfl
theorem j1_true {a b c d k : Int} (ha : I64 a) (hb : I64 b) (hk : I64 k) (K : Nat) (e : Int) (he : e = 0 → b ≠ 0) :
    compasslaw01_SafeOrders.j1 (K + 3) k e false a b c d = some true := by
  rw [compasslaw01_SafeOrders.j1, if_neg (by decide), mul_f a k ha hk, Option.bind_some, mul_f b k hb hk, Option.bind_some]
  split
  · rename_i h1
    split
    · rename_i h2
      split
      · rename_i h3
        split
        · rfl
        · rename_i h4
          rw [order_f ha hb (fit_I64 _) (fit_I64 _), Option.bind_some, fit_ok h2, fit_ok h3, ordSaid_same (he h1) h4, if_pos rfl]; rfl
      · rfl
    · rfl
  · rfl
theorem SafeOrders : ∀ (a b c d k : Int), (Lit.int .i64 a).wf = true → (Lit.int .i64 b).wf = true → (Lit.int .i64 c).wf = true → (Lit.int .i64 d).wf = true → (Lit.int .i64 k).wf = true →
    ∃ K, compasslaw01_SafeOrders.f K a b c d k = some true := by
  intro a b c d k wa wb wc wd wk
  have ha := wf_I64 wa
  have hb := wf_I64 wb
  have hc := wf_I64 wc
  have hd := wf_I64 wd
  have hk := wf_I64 wk
  refine ⟨100, ?_⟩
  unfold compasslaw01_SafeOrders.f
  rw [order_f (a := 1) (b := 2) (c := 2) (d := 3) (by unfold I64; decide) (by unfold I64; decide) (by unfold I64; decide) (by unfold I64; decide) 98, Option.bind_some, if_pos (by decide),
    show ((ordSaid 1 2 2 3).2 != 0) = false from by decide, compasslaw01_SafeOrders.j0, if_neg (by decide), order_f ha hb hc hd 97, Option.bind_some, rorder_f ha hb hc hd 98 (by decide), Option.bind_some,
    order_f hc hd ha hb 97, Option.bind_some, if_pos rfl, if_pos rfl, if_pos (ordSaid_back a b c d).1, (ordSaid_back a b c d).2, bne_self_eq_false]
  exact j1_true ha hb hk 96 _ (fun h hb0 => by unfold ordSaid at h; rw [if_pos (.inl hb0)] at h; exact absurd h (by decide))
end Go.Proofs.Ytofcjoccnbegdaa.Pure
