/- A sum of many is exact wherever the end fits, whatever stands in between; a polynomial is refused at the first step that does not fit: at all lists and numbers of 64 bits. -/
import Derived.Test.YtofcjoccnbegdaaQ22
import Derived.Test.YtofcjoccnbegdaaQ24
import Derived.Test.YtofcjoccnbegdaaQ25
import Derived.Test.YtofcjoccnbegdaaNum
namespace Go.Proofs.Ytofcjoccnbegdaa.Pure
open Go.RowKit Go.Proofs.Ytofcjoccnbegdaa.Q Go.Proofs.Ytofcjoccnbegdaa.Q.Big Go.Proofs.Ytofcjoccnbegdaa.Num Go.Proofs.YtofcjoccnbegdaaW.PrintWords Go.Proofs.YtofcjoccnbegdaaW.PrintLast
set_option linter.unusedVariables false

theorem awake_f : compasslaw01_awake.f = some true := by
  unfold compasslaw01_awake.f
  rw [mul_f 2147483648 2147483648 (by unfold I64; decide) (by unfold I64; decide), Option.bind_some]
  have : safeint_Sum.f [4611686018427387904, 4611686018427387904, -4611686018427387904] = some (4611686018427387904, 0) := by decide +kernel
  rw [this, Option.bind_some]
  decide

theorem sum_len (l : List Int) (hwf : ∀ x ∈ l, -9223372036854775808 ≤ x ∧ x ≤ 9223372036854775807) (hl : l.length ≤ 17592186044416) (k : Nat) (hk : k ≤ l.length) : (dig (sumTo l k).natAbs).length ≤ 8 := by
  have h := sumTo_bound l hwf k hk
  exact len8 (by omega)
theorem sum_ref (l : List Int) (hwf : ∀ x ∈ l, -9223372036854775808 ≤ x ∧ x ≤ 9223372036854775807) (hl : l.length ≤ 17592186044416) :
    ∀ (d i k : Nat), i + d = l.length → d + 61 ≤ k → compassref01_Sum.l0 k l (i : Int) (big (sumTo l i)).1 (big (sumTo l i)).2 = some (fit l.sum) := by
  intro d
  induction d with
  | zero =>
    intro i k hi hk
    obtain ⟨k, rfl⟩ : ∃ m, k = m + 1 := ⟨k - 1, by omega⟩
    have g : ¬ (i : Int) < (l.length : Int) := by omega
    have hk' : 60 ≤ k := by omega
    obtain rfl : i = l.length := by omega
    rw [compassref01_Sum.l0, if_neg g, narrow_f _ k hk', Option.bind_some]
    have : sumTo l l.length = l.sum := by unfold sumTo; rw [List.take_length]
    rw [this]
  | succ d ih =>
    intro i k hi hk
    obtain ⟨k, rfl⟩ : ∃ m, k = m + 1 := ⟨k - 1, by omega⟩
    have hlt : i < l.length := by omega
    have g : (i : Int) < (l.length : Int) := by omega
    have g0 : (0 : Int) ≤ (i : Int) := by omega
    have hk' : 60 ≤ k := by omega
    have hx : I64 (rd l i) := hwf _ (rd_mem l i hlt)
    have l1 := sum_len l hwf hl i (by omega)
    have l2 := hx.len
    have e : wrap64 ((i : Int) + 1) = ((i + 1 : Nat) : Int) := wr64 (by omega) (by omega)
    rw [compassref01_Sum.l0, if_pos g, if_pos g0, of64 hx k hk', Option.bind_some, plus8 l1 (Nat.le_trans l2 (by decide)) k hk', Option.bind_some, ← sumTo_succ l i hlt, e]
    exact ih (i + 1) k (by omega) (by omega)
theorem poly_ref (l : List Int) (x : Int) (hx : I64 x) (hwf : ∀ x ∈ l, -9223372036854775808 ≤ x ∧ x ≤ 9223372036854775807) (hl : l.length ≤ 17592186044416) :
    ∀ (d i k : Nat) (n : Int), I64 n → i + d = l.length → d + 61 ≤ k → compassref01_Poly.l0 k l x n (i : Int) = polyFrom x n (l.drop i) := by
  intro d
  induction d with
  | zero =>
    intro i k n hn hi hk
    obtain ⟨k, rfl⟩ : ∃ m, k = m + 1 := ⟨k - 1, by omega⟩
    have g : ¬ (i : Int) < (l.length : Int) := by omega
    obtain rfl : i = l.length := by omega
    rw [compassref01_Poly.l0, if_neg g, List.drop_length]; rfl
  | succ d ih =>
    intro i k n hn hi hk
    obtain ⟨k, rfl⟩ : ∃ m, k = m + 1 := ⟨k - 1, by omega⟩
    have hlt : i < l.length := by omega
    have g : (i : Int) < (l.length : Int) := by omega
    have g0 : (0 : Int) ≤ (i : Int) := by omega
    have hk' : 60 ≤ k := by omega
    have hk2 : d + 61 ≤ k := by omega
    have hi2 : i + 1 + d = l.length := by omega
    have hc : I64 (rd l i) := hwf _ (rd_mem l i hlt)
    have l2 := hc.len
    have e : wrap64 ((i : Int) + 1) = ((i + 1 : Nat) : Int) := wr64 (by omega) (by omega)
    have hg : l[i] = rd l i := by simp [rd, List.getD_eq_getElem?_getD, List.getElem?_eq_getElem hlt]
    have hm := fit_I64 (n * x)
    have hs := fit_I64 ((fit (n * x)).1 + rd l i)
    have l1 := hm.len
    rw [compassref01_Poly.l0, if_pos g, List.drop_eq_getElem_cons hlt, hg, polyFrom, of64 hn k hk', Option.bind_some, of64 hx k hk', Option.bind_some, times64 hn hx k hk', Option.bind_some, narrow_f _ k hk', Option.bind_some,
      mul_f n x hn hx, Option.bind_some]
    by_cases h0 : (fit (n * x)).2 = 0
    · rw [if_pos h0, if_pos h0, of64 hm k hk', Option.bind_some, if_pos g0, of64 hc k hk', Option.bind_some, plus8 (Nat.le_trans l1 (by decide)) (Nat.le_trans l2 (by decide)) k hk', Option.bind_some, narrow_f _ k hk', Option.bind_some,
        add_f _ _ hm hc, Option.bind_some]
      by_cases h1 : (fit ((fit (n * x)).1 + rd l i)).2 = 0
      · rw [if_pos h1, if_pos h1, e]
        exact ih (i + 1) k _ hs hi2 hk2
      · rw [if_neg h1, if_neg h1]
    · rw [if_neg h0, if_neg h0]
theorem polyFrom_some (x : Int) (hx : I64 x) : ∀ (l : List Int) (n : Int), I64 n → (∀ x ∈ l, -9223372036854775808 ≤ x ∧ x ≤ 9223372036854775807) → ∃ r, polyFrom x n l = some r := by
  intro l
  induction l with
  | nil => intro n _ _; exact ⟨_, rfl⟩
  | cons c r ih =>
    intro n hn hwf
    rw [polyFrom, mul_f n x hn hx, Option.bind_some]
    split
    · rw [add_f _ _ (fit_I64 _) (hwf c (by simp)), Option.bind_some]
      split
      · exact ih _ (fit_I64 _) (fun y hy => hwf y (by simp [hy]))
      · exact ⟨_, rfl⟩
    · exact ⟨_, rfl⟩

theorem SafeSums : compasslaw01_SafeSums.Pure := by
  intro l x _ hlen hwf0 wx
  have hx := wf_I64 wx
  have hwf : ∀ x ∈ l, -9223372036854775808 ≤ x ∧ x ≤ 9223372036854775807 := fun y hy => wf_bounds (hwf0 y hy)
  have hl : l.length ≤ 17592186044416 := by omega
  have hl' : l.length ≤ 140737488351232 := by omega
  refine ⟨l.length + 61, ?_⟩
  obtain ⟨r, hr⟩ := polyFrom_some x hx l 0 (by unfold I64; decide) hwf
  have h1 : safeint_Sum.f l = some (fit l.sum) := by
    unfold safeint_Sum.f fit
    rw [if_pos ⟨hwf, hl'⟩]
    split <;> rfl
  have h2 : compassref01_Sum.f (l.length + 61) l = some (fit l.sum) := by
    have h := sum_ref l hwf hl l.length 0 (l.length + 61) (by omega) (Nat.le_refl _)
    have hb0 : big (sumTo l 0) = (false, []) := by simp [sumTo, big, dig_zero]
    rw [hb0] at h
    exact h
  have h3 : safeint_Poly.f l x = some r := by
    unfold safeint_Poly.f
    rw [if_pos hl']; exact hr
  have h4 : compassref01_Poly.f (l.length + 61) l x = some r := (poly_ref l x hx hwf hl l.length 0 _ 0 (by unfold I64; decide) (by omega) (Nat.le_refl _)).trans hr
  unfold compasslaw01_SafeSums.f
  rw [awake_f, Option.bind_some, if_pos rfl, h1, Option.bind_some, h2, Option.bind_some, h3, Option.bind_some, h4, Option.bind_some, if_pos rfl, if_pos rfl, if_pos rfl, beq_self_eq_true]
end Go.Proofs.Ytofcjoccnbegdaa.Pure
