/- Strict is an order of all float64. -/
import Derived.Test.YtdkhaibibpekoaaQ2
import Derived.Test.YtdkhaibibpekoaaRank
namespace Go.Proofs.Ytdkhaibibpekoaa.Pure
open Go.RowKit Go.Flt Go.Proofs.Ytdkhaibibpekoaa.Q Go.Proofs.Ytdkhaibibpekoaa.Rank Go.Proofs.YtdkhaibibpekoaaW.PrintWords Go.Proofs.YtdkhaibibpekoaaW.PrintLast
set_option linter.unusedVariables false

theorem wf_u64 {a : Int} (h : (Lit.int .u64 a).wf = true) : 0 ≤ a ∧ a ≤ 18446744073709551615 := by
  simpa [Lit.wf, IntKind.min, IntKind.max, IntKind.signed, IntKind.bits] using h
theorem cm_neg (a b : Int) : cm a b = wrap64 (-(cm b a)) := by
  unfold cm
  rcases Int.lt_trichotomy a b with h | h | h
  · rw [if_pos h, if_neg (by omega), if_pos h]; unfold wrap64; decide
  · rw [if_neg (by omega), if_neg (by omega), if_neg (by omega), if_neg (by omega)]; unfold wrap64; decide
  · rw [if_neg (by omega), if_pos h, if_pos h]; unfold wrap64; decide
theorem cm_cases (a b : Int) : (cm a b = -1 ∧ a < b) ∨ (cm a b = 0 ∧ a = b) ∨ (cm a b = 1 ∧ b < a) := by
  unfold cm
  rcases Int.lt_trichotomy a b with h | h | h
  · exact .inl ⟨by rw [if_pos h], h⟩
  · exact .inr (.inl ⟨by rw [if_neg (by omega), if_neg (by omega)], h⟩)
  · exact .inr (.inr ⟨by rw [if_neg (by omega), if_pos h], h⟩)
theorem tot_j1 {a b : Int} (ha : 0 ≤ a ∧ a ≤ 18446744073709551615) (hb : 0 ≤ b ∧ b ≤ 18446744073709551615) (k : Nat) :
    compasslaw02_ScaleTotal.j1 (k + 2) a b a.toNat b.toNat (cm (T a.toNat) (T b.toNat)) false = some true := by
  have la : a.toNat < 18446744073709551616 := by omega
  have lb : b.toNat < 18446744073709551616 := by omega
  have c := cm_cases (T a.toNat) (T b.toNat)
  rw [compasslaw02_ScaleTotal.j1, if_neg (by decide), self_eq, self_eq]
  cases na : nan a.toNat with
  | true =>
    have ta := T_nan na
    rw [if_neg (by decide), self_ne, na, if_pos rfl, self_ne]
    cases nb : nan b.toNat with
    | true => have tb := T_nan nb; congr 1; rw [ta, tb]; decide
    | false =>
      congr 1
      have : cm (T a.toNat) (T b.toNat) ≠ 0 := by rcases T_num nb with ⟨g, t⟩ | ⟨g, t⟩ <;> omega
      simp [this]
  | false =>
    rw [if_pos (by decide)]
    cases nb : nan b.toNat with
    | true =>
      have tb := T_nan nb
      have : cm (T a.toNat) (T b.toNat) ≠ 0 := by rcases T_num na with ⟨g, t⟩ | ⟨g, t⟩ <;> omega
      rw [if_neg (by decide), self_ne, na, if_neg (by decide)]
      simp [this]
    | false =>
      obtain ⟨l1, _, _⟩ := neg_lt la
      obtain ⟨l2, _, _⟩ := neg_lt lb
      have inj := T_inj la lb na nb
      have e0 : ((cm (T a.toNat) (T b.toNat) == 0) == (a == b)) = true := by
        rw [beq_iff_eq, Bool.eq_iff_iff, beq_iff_eq, beq_iff_eq]
        constructor
        · intro h; have := inj (by omega); omega
        · intro h; subst h; omega
      have e1 : cm (T (Op.negFloat .f64 b.toNat)) (T (Op.negFloat .f64 a.toNat)) = cm (T a.toNat) (T b.toNat) := by
        rw [neg_T la na, neg_T lb nb]
        have c2 := cm_cases (18446744073709551615 - T b.toNat) (18446744073709551615 - T a.toNat)
        omega
      rw [if_pos (by decide), strict_f l2 l1, Option.bind_some, e1, if_pos rfl, if_pos e0, order_lt, order_ne na nb, na, nb]
      have key : (T a.toNat < T b.toNat → (iv a.toNat < iv b.toNat ↔ iv a.toNat ≠ iv b.toNat)) ∧ (¬ (T a.toNat < T b.toNat) → ¬ (iv a.toNat < iv b.toNat)) := by
        rcases T_num na with ⟨g, t⟩ | ⟨g, t⟩ <;> rcases T_num nb with ⟨g', t'⟩ | ⟨g', t'⟩ <;> omega
      split
      · have hk := key.1 (by omega)
        congr 1
        rw [beq_iff_eq, Bool.eq_iff_iff, decide_eq_true_iff, decide_eq_true_iff]
        exact ⟨fun h => hk.mp h.2.2, fun h => ⟨rfl, rfl, hk.mpr h⟩⟩
      · have hk := key.2 (by omega)
        congr 1
        rw [beq_iff_eq]
        exact decide_eq_false (fun h => hk h.2.2)
theorem tot_j0 {a b c : Int} (ha : 0 ≤ a ∧ a ≤ 18446744073709551615) (hb : 0 ≤ b ∧ b ≤ 18446744073709551615) (hc : 0 ≤ c ∧ c ≤ 18446744073709551615) (k : Nat) :
    compasslaw02_ScaleTotal.j0 (k + 3) a b c false = some true := by
  have la : a.toNat < 18446744073709551616 := by omega
  have lb : b.toNat < 18446744073709551616 := by omega
  have lc : c.toNat < 18446744073709551616 := by omega
  have c1 := cm_cases (T a.toNat) (T b.toNat)
  have c2 := cm_cases (T b.toNat) (T c.toNat)
  have c3 := cm_cases (T a.toNat) (T c.toNat)
  rw [compasslaw02_ScaleTotal.j0, if_neg (by decide), strict_f la lb, Option.bind_some, strict_f lb lc, Option.bind_some, strict_f lb la, Option.bind_some, if_pos (cm_neg _ _), if_neg (by omega), if_neg (by omega)]
  by_cases d1 : cm (T a.toNat) (T b.toNat) ≤ 0
  · rw [if_pos d1]
    by_cases d2 : cm (T b.toNat) (T c.toNat) ≤ 0
    · rw [if_pos d2, strict_f la lc, Option.bind_some, decide_eq_false (show ¬ (cm (T a.toNat) (T c.toNat) > 0) by omega)]
      exact tot_j1 ha hb k
    · rw [if_neg d2]; exact tot_j1 ha hb k
  · rw [if_neg d1]; exact tot_j1 ha hb k
theorem ScaleTotal : compasslaw02_ScaleTotal.Pure := by
  intro a b c wa wb wc
  refine ⟨3, ?_⟩
  unfold compasslaw02_ScaleTotal.f
  rw [strict_f (by decide) (by decide) 2, Option.bind_some, show cm (T 4607182418800017408) (T 4611686018427387904) = -1 from by decide, if_pos rfl, copysign_f, Option.bind_some, strict_f (by decide) (by decide) 2, Option.bind_some,
    show (cm (T 9223372036854775808) (T 0) != -1) = false from by decide]
  exact tot_j0 (wf_u64 wa) (wf_u64 wb) (wf_u64 wc) 0
end Go.Proofs.Ytdkhaibibpekoaa.Pure
